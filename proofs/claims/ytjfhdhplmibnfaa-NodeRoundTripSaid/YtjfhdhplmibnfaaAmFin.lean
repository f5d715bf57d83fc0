/- What a function's tree says of its calls. Generic: no program stands in it. -/
import Derived.Test.YtjfhdhplmibnfaaAmCtl
namespace Go.AM

def resRead (tm : Array Value) : ResultVar → Sem Value
  | .tmp t => pure (tm.getD t undef)
  | .cell a t => do loadVar t (← asAddr (tm.getD a undef))

def resIx : ResultVar → Nat
  | .tmp _ => 0
  | .cell _ _ => 1

theorem results_eq (fn : Func) (tm : Array Value) : results fn tm = (do
    let vs ← fn.results.mapM (resRead tm)
    pure (if h : vs.size = 1 then vs[0] else .tuple vs)) := by
  unfold results
  congr 1

theorem run_mapM {P : Program} {w : World} {f : ResultVar → Sem Value} : ∀ (rs : List ResultVar) (vs : List Value), rs.length = vs.length →
    (∀ (i : Nat) (r : ResultVar) (v : Value), rs[i]? = some r → vs[i]? = some v → (f r).run P w = .ok v w) → (rs.mapM f).run P w = .ok vs w
  | [], [], _, _ => by simp
  | [], _ :: _, h, _ => by simp at h
  | _ :: _, [], h, _ => by simp at h
  | r :: rs, v :: vs, h, hf => by
    have h1 := hf 0 r v rfl rfl
    have h2 := run_mapM rs vs (by simpa using h) fun i r' v' hr hv => hf (i + 1) r' v' (by simpa using hr) (by simpa using hv)
    simp [List.mapM_cons, h1, h2]

theorem run_results {P : Program} {w : World} {fn : Func} {tm : Array Value} {vs : List Value} (hl : fn.results.toList.length = vs.length)
    (hf : ∀ (i : Nat) (r : ResultVar) (v : Value), fn.results.toList[i]? = some r → vs[i]? = some v → (resRead tm r).run P w = .ok v w) :
    (results fn tm).run P w = .ok (match vs with | [v] => v | vs => .tuple vs.toArray) w := by
  have h := run_mapM _ _ hl hf
  rw [results_eq, Array.mapM_eq_mapM_toList]
  simp only [Sem.run_bind, Sem.run_map, h, Result.andThen_ok]
  rcases vs with _ | ⟨v, _ | ⟨u, l⟩⟩ <;> simp

/-- A slice that was written in place is handed over: it is written no more. -/
theorem Sim.give {c : Ctx} {σ σ' : Nat → AV} {tm : Array Value} {w : World} {lim : Nat → Nat} {X : Nat → Nat → Option Nat} (h : Sim c σ tm w lim X) {t d n cap : Nat} {e : TypeId} {xs : List (List AV)} (htd : t ≠ d) (ht : σ t = .mref d)
    (hd : σ d = .box [.row e n cap xs]) (hp : c.pin d = none) (hσt : σ' t = .own e xs) (hσd : σ' d = .dead)
    (hσ : ∀ i, i ≠ t → i ≠ d → (σ' i = .dead ∧ ∀ cs, σ i ≠ .box cs) ∨ (σ' i = σ i ∧ (∀ o, σ i ≠ .ptr d o) ∧ σ i ≠ .mref d)) : ∃ lim' X', Sim c σ' tm w lim' X' := by
  have hrd := h.rel d
  rw [hd] at hrd
  obtain ⟨b, arr, g1, g2, g3, g4, g5, g6, g7, g8, g9, g10, g11⟩ := BoxR.row hrd
  have hrt := h.rel t
  rw [ht] at hrt
  obtain ⟨b', e', n', cap', xs', k1, k2, k3⟩ := hrt
  rw [hd] at k2
  simp only [AV.box.injEq, List.cons.injEq, AV.row.injEq, and_true] at k2
  obtain ⟨rfl, rfl, rfl, rfl⟩ := k2
  have hbb : b' = b := by rw [g1] at k1; exact (Option.some.inj k1).symm
  subst hbb
  have hmul : n * c.P.cellsOf e ≤ cap * c.P.cellsOf e := Nat.mul_le_mul_right _ g6
  have hfl : xs.flatten.length = n * c.P.cellsOf e := by rw [getD_replicate_flat xs _ g9, g5]
  let lim' : Nat → Nat := fun i => if i = b' then n * c.P.cellsOf e else lim i
  have hlb : lim' b' = n * c.P.cellsOf e := by simp [lim']
  have hlo : ∀ i, i ≠ b' → lim' i = lim i := fun i hi => by simp [lim', hi]
  have hstep : WStep w lim w lim' (fun i => i = b') := ⟨rfl, rfl, rfl, Nat.le_refl _, fun _ => rfl, fun i _ hi => ⟨rfl, hlo i hi⟩, fun i _ => ⟨by
    by_cases hi : i = b'
    · subst hi; rw [g4]; exact Nat.zero_le _
    · rw [hlo i hi]; exact Nat.le_refl _, fun _ _ _ hc => hc⟩⟩
  let X' : Nat → Nat → Option Nat := fun i => if i = t then oneRow (some b') else if i = d then noRow else X i
  have hXt : X' t = oneRow (some b') := by simp [X']
  have hXd : X' d = noRow := by simp [X', Ne.symm htd]
  have hXo : ∀ i, i ≠ t → i ≠ d → X' i = X i := fun i hi hj => by simp [X', hi, hj]
  have hin : ∀ i k b, X' i k = some b → (i = t ∧ k = 0 ∧ b = b') ∨ (i ≠ t ∧ i ≠ d ∧ X i k = some b) := by
    intro i k b hb
    by_cases hi : i = t
    · subst hi
      rw [hXt] at hb
      unfold oneRow at hb
      split at hb
      · rename_i hk
        exact .inl ⟨rfl, hk, (Option.some.inj hb).symm⟩
      · cases hb
    · by_cases hj : i = d
      · subst hj
        rw [hXd] at hb
        cases hb
      · rw [hXo i hi hj] at hb
        exact .inr ⟨hi, hj, hb⟩
  refine ⟨lim', X', ⟨fun i => ?_, h.size, fun i hi => ?_, fun i k i' k' b h1 h2 => ?_, fun i k b hb => ?_, h.frm.step hstep fun i hi => by (rw [hi]; exact (h.ours d 0 b' g1).2), fun i v hv => ?_⟩⟩
  · by_cases hi : i = t
    · subst hi
      rw [hσt]
      show OwnR c.P w lim' e xs (tm.getD i undef) (X' i 0)
      rw [hXt, k3]
      refine .inl ⟨arr.toList.take (n * c.P.cellsOf e), ?_, rfl, fun b hb => ?_, g9, g10, fun j z u hz hu => ?_⟩
      · rw [g5]
        exact ⟨by rw [List.length_take, Array.length_toList, g8]; omega, .inr ⟨b', cap, arr, rfl, Nat.zero_le _, g3, g6, g7, g8, rfl⟩⟩
      · have : b = b' := (Option.some.inj hb).symm
        subst this
        rw [hlb, List.length_take, Array.length_toList, g8]
        omega
      · rw [List.getElem?_take] at hu
        split at hu
        · exact (g11 j z u hz (by simpa using hu)).mono hstep.ext
        · cases hu
    · by_cases hj : i = d
      · subst hj
        rw [hσd]
        trivial
      · rcases hσ i hi hj with ⟨h1, _⟩ | ⟨h1, h2, h3⟩
        · rw [h1]; trivial
        · rw [h1]
          have hm := (h.rel i).mono hstep.ext fun k b hb => hstep.blk b (h.ours i k b hb).1 fun hs => by
            subst hs
            exact hj (h.dist i k d 0 _ hb g1).1
          have keep : ∀ d' cs, d' ≠ d → σ d' = .box cs → σ' d' = .box cs ∧ X' d' 0 = X d' 0 := by
            intro d' cs hne hd'
            have hnt : d' ≠ t := by
              intro he
              subst he
              rw [ht] at hd'
              cases hd'
            rcases hσ d' hnt hne with ⟨_, h5⟩ | ⟨h4, _⟩
            · exact (h5 cs hd').elim
            · exact ⟨by rw [h4, hd'], by rw [hXo d' hnt hne]⟩
          generalize σ i = x at hm h2 h3
          have hXi := hXo i hi hj
          cases x with
          | ptr d' off =>
            obtain ⟨b, cs, m1, m2, m3⟩ := hm
            obtain ⟨m4, m5⟩ := keep d' cs (fun he => h2 off (by rw [he])) m2
            exact ⟨b, cs, m5.trans m1, m4, m3⟩
          | mref d' =>
            obtain ⟨b, e, n, cap, xs, m1, m2, m3⟩ := hm
            obtain ⟨m4, m5⟩ := keep d' _ (fun he => h3 (by rw [he])) m2
            exact ⟨b, e, n, cap, xs, m5.trans m1, m4, m3⟩
          | row e n cap xs => exact hm
          | own e xs => show OwnR c.P w lim' e xs _ (X' i 0); rw [hXi]; exact hm
          | box cs => show BoxR c.P w lim' (X' i) cs _; rw [hXi]; exact hm
          | tuple vs =>
            obtain ⟨us, m1, m2, m3⟩ := hm
            refine ⟨us, m1, m2, ?_⟩
            rw [hXi]
            exact m3
          | dead => trivial
          | gone => trivial
          | eptr cs => exact hm
          | val v => exact hm
          | agg cs => exact hm
          | slice f s xs => exact hm
  · have hdd := h.out i hi
    have hit : i ≠ t := by intro he; subst he; rw [ht] at hdd; cases hdd
    have hid : i ≠ d := by intro he; subst he; rw [hd] at hdd; cases hdd
    rcases hσ i hit hid with ⟨h1, _⟩ | ⟨h1, _⟩
    · exact h1
    · rw [h1, hdd]
  · rcases hin i k b h1 with ⟨a1, a2, a3⟩ | ⟨a1, a2, a3⟩ <;> rcases hin i' k' b h2 with ⟨b1, b2, b3⟩ | ⟨b1, b2, b3⟩
    · exact ⟨a1.trans b1.symm, a2.trans b2.symm⟩
    · subst a3
      exact (b2 (h.dist i' k' d 0 _ b3 g1).1).elim
    · subst b3
      exact (a2 (h.dist i k d 0 _ a3 g1).1).elim
    · exact h.dist i k i' k' b a3 b3
  · rcases hin i k b hb with ⟨a1, a2, a3⟩ | ⟨a1, a2, a3⟩
    · subst a3
      exact h.ours d 0 _ g1
    · exact h.ours i k b a3
  · obtain ⟨h1, cs, h2⟩ := h.pin i v hv
    have hit : i ≠ t := by intro he; subst he; rw [ht] at h2; cases h2
    have hid : i ≠ d := by intro he; subst he; rw [hp] at hv; cases hv
    rcases hσ i hit hid with ⟨_, h5⟩ | ⟨h4, _⟩
    · exact (h5 cs h2).elim
    · exact ⟨h1, cs, by rw [h4, h2]⟩

theorem updL_dead : ∀ (us : List (Nat × AV)) (σ : Nat → AV) (i : Nat), (∀ u ∈ us, u.2 = .dead) → updL σ us i = if i ∈ us.map (·.1) then .dead else σ i
  | [], σ, i, _ => by simp [updL]
  | (d, x) :: us, σ, i, h => by
    have hx : x = .dead := h (d, x) (by simp)
    subst hx
    rw [updL, updL_dead us _ i fun u hu => h u (by simp [hu])]
    by_cases hm : i ∈ us.map (·.1)
    · rw [if_pos hm, if_pos (by simp only [List.map_cons, List.mem_cons]; exact .inr hm)]
    · rw [if_neg hm]
      by_cases hi : i = d
      · subst hi
        rw [upd_same, if_pos (by simp)]
      · rw [upd_other _ _ hi, if_neg (by simp only [List.map_cons, List.mem_cons]; exact fun h => h.elim hi hm)]

theorem dropUps_mem (g : Nat → SV) (d t : Nat) : ∀ (n i : Nat) (x : SV), (i, x) ∈ dropUps g d t n ↔ x = .dead ∧ i < n ∧ i ≠ t ∧ refsTo d (g i) = true
  | 0, i, x => by simp [dropUps]
  | n + 1, i, x => by
    unfold dropUps
    split
    · rename_i hh
      rw [List.mem_cons, dropUps_mem g d t n i x]
      simp only [Prod.mk.injEq]
      constructor
      · rintro (⟨rfl, rfl⟩ | ⟨h1, h2, h3⟩)
        · exact ⟨rfl, by omega, hh⟩
        · exact ⟨h1, by omega, h3⟩
      · rintro ⟨h1, h2, h3⟩
        by_cases hi : i = n
        · exact .inl ⟨hi, h1⟩
        · exact .inr ⟨h1, by omega, h3⟩
    · rename_i hh
      rw [dropUps_mem g d t n i x]
      constructor
      · rintro ⟨h1, h2, h3⟩
        exact ⟨h1, by omega, h3⟩
      · rintro ⟨h1, h2, h3⟩
        by_cases hi : i = n
        · subst hi; exact (hh h3).elim
        · exact ⟨h1, by omega, h3⟩

section
variable {P : Program} {E : Env}

theorem giveOne_sim (hnt : E.nt ≤ 1024) {c : Ctx} (hcn : c.nt = E.nt) (hpin : ∀ d v, c.pin d = some v → d ∈ E.pins) {s : Tr} {ρ : Nat → V} {tm : Array Value} {w : World} {lim : Nat → Nat} {X : Nat → Nat → Option Nat} (hs : Sim c (sden E s ρ) tm w lim X) (t : Nat) :
    ∃ lim' X', Sim c (sden E (giveOne E s t) ρ) tm w lim' X' := by
  unfold giveOne
  split
  · rename_i d ht
    split
    · rename_i e m cp l hd
      split
      · rename_i hh
        obtain ⟨h1, h2, h3, h4⟩ := hh
        have l1 : usLow E (dropUps (gE E s) d t E.nt) := by
          unfold usLow
          rw [List.all_eq_true]
          intro u hu
          have := ((dropUps_mem (gE E s) d t E.nt u.1 u.2).1 hu).2.1
          simpa using this
        have l2 : usLow E [(t, SV.own e l), (d, SV.dead)] := by simp [usLow, h2, h3]
        have hσ : ∀ i, sden E (applyU [(t, .own e l), (d, .dead)] (applyU (dropUps (gE E s) d t E.nt) s)) ρ i = if i = d then .dead else if i = t then .own e (l.den ρ) else if i < E.nt ∧ i ≠ t ∧ refsTo d (gE E s i) = true then .dead else sden E s ρ i := by
          intro i
          rw [sden_applyU hnt ρ _ _ l2, sden_applyU hnt ρ _ _ l1]
          simp only [List.map_cons, List.map_nil, updL]
          by_cases hi : i = d
          · subst hi; rw [upd_same, if_pos rfl]; rfl
          · rw [upd_other _ _ hi, if_neg hi]
            by_cases hj : i = t
            · subst hj; rw [upd_same, if_pos rfl]; rfl
            · rw [upd_other _ _ hj, if_neg hj, updL_dead _ _ _ fun u hu => by
                obtain ⟨v, hv, rfl⟩ := List.mem_map.1 hu
                have := ((dropUps_mem (gE E s) d t E.nt v.1 v.2).1 hv).1
                show v.2.den ρ = .dead
                rw [this]; rfl]
              rw [List.map_map]
              by_cases hm : i < E.nt ∧ i ≠ t ∧ refsTo d (gE E s i) = true
              · rw [if_pos hm, if_pos]
                exact List.mem_map.2 ⟨(i, .dead), (dropUps_mem _ _ _ _ _ _).2 ⟨rfl, hm⟩, rfl⟩
              · rw [if_neg hm, if_neg]
                intro hc
                obtain ⟨u, hu, rfl⟩ := List.mem_map.1 hc
                exact hm ((dropUps_mem _ _ _ _ _ _).1 hu).2
        have hrefs : ∀ i, i < E.nt → (refsTo d (gE E s i) = true → ∀ cs, sden E s ρ i ≠ .box cs) ∧ (refsTo d (gE E s i) ≠ true → (∀ o, sden E s ρ i ≠ .ptr d o) ∧ sden E s ρ i ≠ .mref d) := by
          intro i _
          simp only [sden]
          cases gE E s i with
          | ptr d' o => simp [refsTo, SV.den]
          | mref d' => simp [refsTo, SV.den]
          | rptr d' i s o => simp [refsTo, SV.den]
          | c x => cases x <;> simp [refsTo, SV.den, SC.den]
          | _ => simp [refsTo, SV.den]
        refine hs.give (t := t) (d := d) h1 (by simp only [sden, ht]; rfl) (by simp only [sden, hd]; rfl) ?_ (by rw [hσ, if_neg h1, if_pos rfl]) (by rw [hσ, if_pos rfl]) fun i hi hj => ?_
        · cases hp : c.pin d with
          | none => rfl
          | some v =>
            have := hpin d v hp
            rw [← List.contains_iff_mem, h4] at this
            cases this
        · rw [hσ, if_neg hj, if_neg hi]
          by_cases hlt : i < E.nt
          · by_cases hr : refsTo d (gE E s i) = true
            · rw [if_pos ⟨hlt, hi, hr⟩]
              exact .inl ⟨rfl, (hrefs i hlt).1 hr⟩
            · rw [if_neg fun h => hr h.2.2]
              exact .inr ⟨rfl, (hrefs i hlt).2 hr⟩
          · rw [if_neg fun h => hlt h.1]
            have := hs.out i (by omega)
            rw [this]
            refine .inr ⟨rfl, ?_, ?_⟩ <;> simp
      · exact ⟨lim, X, hs⟩
    · exact ⟨lim, X, hs⟩
  · exact ⟨lim, X, hs⟩

theorem giveAll_sim (hnt : E.nt ≤ 1024) {c : Ctx} (hcn : c.nt = E.nt) (hpin : ∀ d v, c.pin d = some v → d ∈ E.pins) {ρ : Nat → V} {tm : Array Value} {w : World} : ∀ (rs : List ResultVar) {s : Tr} {lim : Nat → Nat} {X : Nat → Nat → Option Nat}, Sim c (sden E s ρ) tm w lim X →
    ∃ lim' X', Sim c (sden E (giveAll E s rs) ρ) tm w lim' X'
  | [], _, lim, X, hs => ⟨lim, X, hs⟩
  | .tmp t :: rs, _, _, _, hs => by
    obtain ⟨lim', X', h⟩ := giveOne_sim hnt hcn hpin hs t
    exact giveAll_sim hnt hcn hpin rs h
  | .cell _ _ :: rs, _, _, _, hs => giveAll_sim hnt hcn hpin rs hs

theorem resOne_ok {c : Ctx} (hc : c.P = P) {s : Tr} {ρ : Nat → V} {tm : Array Value} {w : World} {lim : Nat → Nat} {X : Nat → Nat → Option Nat} (hs : Sim c (sden E s ρ) tm w lim X) {r : ResultVar} {x : TC}
    (h : resOne P (gE E s) r = some x) : ∃ v, (resRead tm r).run P w = .ok v w ∧ CellR P w lim (X (resSlot r) (resIx r)) (x.den ρ) v := by
  cases r with
  | tmp t =>
    have hr := hs.rel t
    simp only [resOne] at h
    split at h
    · rename_i y hy
      simp only [Option.some.injEq] at h
      subst h
      have : sden E s ρ t = y.den ρ := by simp only [sden, hy, SV.den]
      rw [this] at hr
      exact ⟨_, rfl, by cases y <;> exact hr⟩
    · rename_i cs hy
      simp only [Option.some.injEq] at h
      subst h
      have : sden E s ρ t = .agg (cs.map (SC.den ρ)) := by simp only [sden, hy, SV.den]
      rw [this] at hr
      exact ⟨_, rfl, hr⟩
    · rename_i e xs hy
      simp only [Option.some.injEq] at h
      subst h
      have : sden E s ρ t = .own e (xs.den ρ) := by simp only [sden, hy, SV.den]
      rw [this, hc] at hr
      exact ⟨_, rfl, hr⟩
    · cases h
  | cell t T =>
    have hr := hs.rel t
    simp only [resOne] at h
    split at h
    · rename_i cs hT hy
      split at h
      · rename_i hl
        simp only [Option.some.injEq] at h
        subst h
        have : sden E s ρ t = .box (cs.map (BC.den ρ)) := by simp only [sden, hy, SV.den]
        rw [this, hc] at hr
        obtain ⟨b, us, g1, g2, g3, g4, g5, g6⟩ := PlainR.part (BoxR.plain hr (plainB_ok hl.2 ρ)) 0 (P.cellsOf T) (by simp [hl.1])
        refine ⟨.agg us.toArray, ?_, ?_⟩
        · obtain ⟨i, hi⟩ := isAgg_info hT
          have hl2 := run_loadCells_list (P := P) w ⟨b, 0, none⟩ us (fun j v hj => by rw [add_none]; exact g4 j v hj)
          rw [g3] at hl2
          simp [resRead, g2, asAddr, loadVar, isAgg_true hT, run_sizeOf hi, hl2]
        · have he : (TC.agg (cs.map (stripB P))).den ρ = .agg ((((cs.map (BC.den ρ)).drop 0).take (P.cellsOf T)).map (stripS P)) := by
            rw [List.drop_zero, List.take_of_length_le (by simp [hl.1])]
            simp only [TC.den, List.map_map]
            congr 1
            exact List.map_congr_left fun b _ => stripB_den P ρ b
          rw [he]
          exact .agg (by simp [g3, hl.1]) g5 g6
      · cases h
    · rename_i e xs hT hy
      simp only [Option.some.injEq] at h
      subst h
      have : sden E s ρ t = .box [.own e (xs.den ρ)] := by simp only [sden, hy, SV.den]; rfl
      rw [this, hc] at hr
      obtain ⟨b, arr, ty, h1, h2, h3, h4, h5, h6, h7⟩ := BoxR.plain hr (noRow_of fun c hc => by (rw [List.mem_singleton.1 hc]; exact .inr ⟨_, _, rfl⟩))
      obtain ⟨u, hu⟩ : ∃ u, arr[0]? = some u := ⟨_, Array.getElem?_eq_getElem (by rw [h4]; simp)⟩
      refine ⟨u, ?_, h7 0 _ u rfl hu⟩
      have hcell : w.cell? ⟨b, 0, none⟩ = some u := by rw [cell_of_heap h3]; exact hu
      simp [resRead, h2, asAddr, loadVar, isAgg_false hT, hcell]
    · rename_i y hT hy
      simp only [Option.some.injEq] at h
      subst h
      have : sden E s ρ t = .box [y.den ρ] := by simp only [sden, hy, SV.den]; rfl
      rw [this, hc] at hr
      obtain ⟨b, arr, ty, h1, h2, h3, h4, h5, h6, h7⟩ := BoxR.plain hr (noRow_of fun c hc => by (rw [List.mem_singleton.1 hc]; exact .inl (scden_cell ρ y)))
      obtain ⟨u, hu⟩ : ∃ u, arr[0]? = some u := ⟨_, Array.getElem?_eq_getElem (by rw [h4]; simp)⟩
      have h70 := h7 0 _ u rfl hu
      refine ⟨u, ?_, by cases y <;> exact h70⟩
      have hcell : w.cell? ⟨b, 0, none⟩ = some u := by rw [cell_of_heap h3]; exact hu
      simp [resRead, h2, asAddr, loadVar, isAgg_false hT, hcell]
    · cases h

theorem resAll_ok {c : Ctx} (hc : c.P = P) {s : Tr} {ρ : Nat → V} {tm : Array Value} {w : World} {lim : Nat → Nat} {X : Nat → Nat → Option Nat} (hs : Sim c (sden E s ρ) tm w lim X) : ∀ (rs : List ResultVar) (xs : List TC),
    resAll P (gE E s) rs = some xs → ∃ vs : List Value, rs.length = vs.length ∧ xs.length = vs.length ∧ ∀ (i : Nat) (r : ResultVar) (v : Value), rs[i]? = some r → vs[i]? = some v →
      (resRead tm r).run P w = .ok v w ∧ ∀ x, xs[i]? = some x → CellR P w lim (X (resSlot r) (resIx r)) (x.den ρ) v
  | [], xs, h => by
    simp only [resAll, Option.some.injEq] at h
    subst h
    exact ⟨[], rfl, rfl, by simp⟩
  | r :: rs, xs, h => by
    simp only [resAll] at h
    split at h
    · rename_i x xs' hx hxs
      simp only [Option.some.injEq] at h
      subst h
      obtain ⟨v, h1, h2⟩ := resOne_ok hc hs hx
      obtain ⟨vs, g1, g2, g3⟩ := resAll_ok hc hs rs xs' hxs
      refine ⟨v :: vs, by simp [g1], by simp [g2], fun i r' v' hr hv => ?_⟩
      cases i with
      | zero =>
        simp only [List.getElem?_cons_zero, Option.some.injEq] at hr hv
        subst hr
        subst hv
        refine ⟨h1, fun y hy => ?_⟩
        simp only [List.getElem?_cons_zero, Option.some.injEq] at hy
        subst hy
        exact h2
      | succ i =>
        obtain ⟨k1, k2⟩ := g3 i r' v' (by simpa using hr) (by simpa using hv)
        exact ⟨k1, fun y hy => k2 y (by simpa using hy)⟩
    · cases h

theorem cellR_slotR {w : World} {lim : Nat → Nat} {X : Nat → Nat → Option Nat} {σ : Nat → AV} {d : Nat} {x : TC} {ρ : Nat → V} {v : Value} (h : CellR P w lim (X d 0) (x.den ρ) v) : SlotR P w lim X σ d (x.den ρ) v := by
  cases x with
  | c y => cases y <;> exact h
  | agg cs => exact h
  | own e l => exact h

theorem argUps_den (ρ : Nat → V) : ∀ (as : List SV) (i : Nat) (σ : Nat → AV) (d : Nat), updL σ ((argUps as i).map fun u => (u.1, u.2.den ρ)) d = if i ≤ d ∧ d < i + as.length then argS (as.map (SV.den ρ)) (d - i) else σ d
  | [], i, σ, d => by
    rw [if_neg (by simp)]
    rfl
  | a :: as, i, σ, d => by
    simp only [argUps, List.map_cons, updL]
    rw [argUps_den ρ as (i + 1)]
    by_cases h : i + 1 ≤ d ∧ d < i + 1 + as.length
    · rw [if_pos h, if_pos (by simp only [List.length_cons]; omega)]
      obtain ⟨k, hk⟩ : ∃ k, d - i = k + 1 := ⟨d - i - 1, by omega⟩
      rw [hk, show d - (i + 1) = k by omega]
      simp [argS]
    · rw [if_neg h]
      by_cases hd : d = i
      · subst hd
        rw [upd_same, if_pos (by simp)]
        simp [argS]
      · rw [upd_other _ _ hd, if_neg (by simp only [List.length_cons]; omega)]

theorem argUps_bd {n : Nat} : ∀ (as : List SV) (i : Nat), (∀ a ∈ as, a.bd n) → ∀ u ∈ argUps as i, u.2.bd n
  | [], i, _, u, hu => by simp [argUps] at hu
  | a :: as, i, h, u, hu => by
    rcases List.mem_cons.1 hu with rfl | hu
    · exact h a (by simp)
    · exact argUps_bd as (i + 1) (fun b hb => h b (by simp [hb])) u hu

theorem argUps_low : ∀ (as : List SV) (i m : Nat), i + as.length ≤ m → ∀ u ∈ argUps as i, u.1 < m
  | [], i, m, _, u, hu => by simp [argUps] at hu
  | a :: as, i, m, h, u, hu => by
    simp only [List.length_cons] at h
    rcases List.mem_cons.1 hu with rfl | hu
    · show i < m; omega
    · exact argUps_low as (i + 1) m (by omega) u hu

theorem argsFine_pins : ∀ (as : List SV) (i : Nat), argsFine E as i = true → ∀ (j : Nat) (cs : List BC), as[j]? = some (.box cs) → i + j ∈ E.pins
  | [], i, _, j, cs, h => by simp at h
  | a :: as, i, hf, j, cs, h => by
    cases j with
    | zero =>
      simp only [List.getElem?_cons_zero, Option.some.injEq] at h
      subst h
      simp only [argsFine, Bool.and_eq_true, List.contains_iff_mem] at hf
      exact hf.1
    | succ j =>
      have htail : argsFine E as (i + 1) = true := by
        cases a <;> simp only [argsFine, Bool.and_eq_true, Bool.false_eq_true] at hf <;> first | exact hf.2 | exact hf
      have := argsFine_pins as (i + 1) htail j cs (by simpa using h)
      rw [show i + (j + 1) = i + 1 + j by omega]
      exact this

theorem outOf_at (g : Nat → SV) : ∀ (as : List SV) (i j : Nat), (outOf g as i)[j]? = (as[j]?).map fun a => match a with | .box _ => g (i + j) | _ => .dead
  | [], i, j => by simp [outOf]
  | a :: as, i, 0 => by cases a <;> rfl
  | a :: as, i, j + 1 => by
    have := outOf_at g as (i + 1) j
    rw [show i + 1 + j = i + (j + 1) by omega] at this
    cases a <;> simpa [outOf] using this

theorem outOf_len (g : Nat → SV) : ∀ (as : List SV) (i : Nat), (outOf g as i).length = as.length
  | [], i => rfl
  | a :: as, i => by cases a <;> simp [outOf, outOf_len g as]

/-- Where the blocks of what is handed back stand. -/
def srcX (args : List SV) (rs : List ResultVar) (i k : Nat) : Option (Nat × Nat) :=
  if i < args.length then match args[i]? with | some (.box _) => some (i, k) | _ => none
  else if i = args.length then
    match rs with
    | [r] => if k = 0 then some (resSlot r, resIx r) else none
    | rs => match k with | 0 => none | k + 1 => (rs[k]?).map fun r => (resSlot r, resIx r)
  else none

theorem nodup_at : ∀ (rs : List ResultVar), (rs.map resSlot).Nodup → ∀ (i j : Nat) (a b : ResultVar), rs[i]? = some a → rs[j]? = some b → resSlot a = resSlot b → i = j
  | [], _, i, j, a, b, h, _, _ => by simp at h
  | r :: rs, hn, i, j, a, b, ha, hb, he => by
    rw [List.map_cons, List.nodup_cons] at hn
    cases i with
    | zero =>
      cases j with
      | zero => rfl
      | succ j =>
        simp only [List.getElem?_cons_zero, Option.some.injEq] at ha
        subst ha
        exact (hn.1 (List.mem_map.2 ⟨b, List.mem_of_getElem? (by simpa using hb), he.symm⟩)).elim
    | succ i =>
      cases j with
      | zero =>
        simp only [List.getElem?_cons_zero, Option.some.injEq] at hb
        subst hb
        exact (hn.1 (List.mem_map.2 ⟨a, List.mem_of_getElem? (by simpa using ha), he⟩)).elim
      | succ j => rw [nodup_at rs hn.2 i j a b (by simpa using ha) (by simpa using hb) he]

/-- A result's place among the results. -/
theorem srcX_res {args : List SV} {rs : List ResultVar} {k : Nat} {p : Nat × Nat} (h : srcX args rs args.length k = some p) :
    ∃ j r, rs[j]? = some r ∧ p = (resSlot r, resIx r) ∧ ((rs.length = 1 ∧ j = 0 ∧ k = 0) ∨ (rs.length ≠ 1 ∧ k = j + 1)) := by
  unfold srcX at h
  rw [if_neg (Nat.lt_irrefl _), if_pos rfl] at h
  split at h
  · rename_i r
    split at h
    · rename_i hk
      simp only [Option.some.injEq] at h
      exact ⟨0, r, rfl, h.symm, .inl ⟨rfl, rfl, hk⟩⟩
    · cases h
  · rename_i hne
    split at h
    · cases h
    · rename_i k
      cases hr : rs[k]? with
      | none => simp [hr] at h
      | some r =>
        simp only [hr, Option.map_some, Option.some.injEq] at h
        refine ⟨k, r, hr, h.symm, .inr ⟨fun h1 => ?_, rfl⟩⟩
        obtain ⟨r', hr'⟩ := List.length_eq_one_iff.1 h1
        exact hne r' hr'

theorem srcX_inj {args : List SV} {rs : List ResultVar} (hf : resFine args rs = true) {i k i' k' : Nat} {p : Nat × Nat} (h : srcX args rs i k = some p) (h' : srcX args rs i' k' = some p) : i = i' ∧ k = k' := by
  simp only [resFine, Bool.and_eq_true] at hf
  obtain ⟨hn, hb⟩ := hf
  have hnd := nodupB_ok _ hn
  have hform : ∀ i k p, srcX args rs i k = some p → (i < args.length ∧ p = (i, k) ∧ ∃ cs, args[i]? = some (.box cs)) ∨ i = args.length := by
    intro i k p h
    unfold srcX at h
    split at h
    · rename_i hi
      split at h
      · rename_i cs hcs
        simp only [Option.some.injEq] at h
        exact .inl ⟨hi, h.symm, cs, hcs⟩
      · cases h
    · split at h
      · rename_i hi; exact .inr hi
      · cases h
  have hno : ∀ (j : Nat) (r : ResultVar), rs[j]? = some r → ∀ cs, args[resSlot r]? ≠ some (.box cs) := by
    intro j r hr cs hcs
    rw [List.all_eq_true] at hb
    have := hb r (List.mem_of_getElem? hr)
    rw [hcs] at this
    cases this
  rcases hform i k p h with ⟨h1, h2, cs, h3⟩ | h1 <;> rcases hform i' k' p h' with ⟨h1', h2', cs', h3'⟩ | h1'
  · rw [h2] at h2'
    simp only [Prod.mk.injEq] at h2'
    exact h2'
  · subst h1'
    obtain ⟨j, r, g1, g2, _⟩ := srcX_res h'
    rw [h2] at g2
    simp only [Prod.mk.injEq] at g2
    exact (hno j r g1 cs (by rw [← g2.1]; exact h3)).elim
  · subst h1
    obtain ⟨j, r, g1, g2, _⟩ := srcX_res h
    rw [h2'] at g2
    simp only [Prod.mk.injEq] at g2
    exact (hno j r g1 cs' (by rw [← g2.1]; exact h3')).elim
  · subst h1
    subst h1'
    obtain ⟨j, r, g1, g2, g3⟩ := srcX_res h
    obtain ⟨j', r', g1', g2', g3'⟩ := srcX_res h'
    rw [g2] at g2'
    simp only [Prod.mk.injEq] at g2'
    have := nodup_at rs hnd j j' r r' g1 g1' g2'.1
    refine ⟨rfl, ?_⟩
    omega

theorem callOk_of (hm : P.follows .mixedOrders = true) (hps : PlainSound P E.plain) {f : FuncId} {fn : Func} (hf : P.funcs[f]? = some fn) (hname : (fn.name == "runtime.NumGoroutine") = false) {args : List SV} {n : Nat} {ρ : Nat → V}
    (hargs : ∀ a ∈ args, a.bd n) {res : AV} {outs : List AV} (h : (evFn P E fn args n).wp P (fun r os => r = res ∧ os = outs) (fun _ _ => False) ρ) : CallOk P f (args.map (SV.den ρ)) res outs := by
  unfold evFn at h
  split at h
  case h_2 => exact h.elim
  rename_i code hbody
  dsimp only at h
  split at h
  case isFalse => exact h.elim
  rename_i hh
  obtain ⟨hnt, hnm, hal, haf⟩ := hh
  refine ⟨⟨fn, hf, hname, by rw [hbody]; rfl⟩, ?_⟩
  intro w lim X cargs hcl hrel hdist hsize
  rw [List.length_map] at hcl
  refine calls_of_wp hf hbody ?_
  let c : Ctx := ⟨P, w, lim, fun b => ∃ i k, X i k = some b, E.nt, fun d => match args[d]? with | some (.box _) => some (cargs.getD d undef) | _ => none⟩
  have hlow : usLow E (argUps args 0) := by
    unfold usLow
    rw [List.all_eq_true]
    intro u hu
    have := argUps_low args 0 E.nt (by omega) u hu
    simpa using this
  have hσ : sden E (applyU (argUps args 0) (.leaf .dead)) ρ = argS (args.map (SV.den ρ)) := by
    rw [sden_applyU hnt ρ _ _ hlow]
    funext d
    rw [argUps_den, Nat.zero_add, Nat.sub_zero]
    split
    · rfl
    · rename_i hd
      have h1 : sden E (.leaf .dead) ρ d = .dead := by
        simp only [sden, gE]
        split <;> rfl
      have h2 : (args.map (SV.den ρ))[d]? = none := List.getElem?_eq_none (by rw [List.length_map]; omega)
      rw [h1]
      simp only [argS, h2]
      rfl
  have htm : ∀ d, d < args.length → (cargs.toArray ++ Array.replicate (fn.ntmps - cargs.toArray.size) undef).getD d undef = cargs.getD d undef := by
    intro d hd
    have h1 : d < cargs.length := by omega
    have h2 : d < (cargs.toArray ++ Array.replicate (fn.ntmps - cargs.toArray.size) undef).size := by simp; omega
    rw [Array.getD, dif_pos h2]
    simp [h1, List.getD_eq_getElem?_getD]
  have hpin : ∀ d v, c.pin d = some v → (∃ cs, args[d]? = some (.box cs)) ∧ v = cargs.getD d undef := by
    intro d v hv
    have hv' : (match args[d]? with | some (.box _) => some (cargs.getD d undef) | _ => none) = some v := hv
    split at hv'
    · rename_i cs hcs
      simp only [Option.some.injEq] at hv'
      exact ⟨⟨cs, hcs⟩, hv'.symm⟩
    · cases hv'
  have hsim : Sim c (sden E (applyU (argUps args 0) (.leaf .dead)) ρ) (cargs.toArray ++ Array.replicate (fn.ntmps - cargs.toArray.size) undef) w lim X := by
    rw [hσ]
    refine ⟨fun d => ?_, ?_, fun d hd => ?_, hdist, fun d k b hb => ⟨hsize d k b hb, .inl ⟨d, k, hb⟩⟩, ⟨rfl, rfl, rfl, Nat.le_refl _, fun _ => rfl, fun _ _ _ => ⟨rfl, rfl⟩, Ext.refl w lim⟩, fun d v hv => ?_⟩
    · by_cases hd : d < args.length
      · rw [htm d hd]
        exact hrel d
      · have : argS (args.map (SV.den ρ)) d = .dead := by
          have h2 : (args.map (SV.den ρ))[d]? = none := List.getElem?_eq_none (by rw [List.length_map]; omega)
          simp only [argS, h2]
          rfl
        rw [this]
        trivial
    · show _ = E.nt
      simp
      omega
    · have h2 : (args.map (SV.den ρ))[d]? = none := List.getElem?_eq_none (by rw [List.length_map]; have : E.nt ≤ d := hd; omega)
      simp only [argS, h2]
      rfl
    · obtain ⟨⟨cs, hcs⟩, rfl⟩ := hpin d v hv
      have hd : d < args.length := (List.getElem?_eq_some_iff.1 hcs).1
      refine ⟨htm d hd, cs.map (BC.den ρ), ?_⟩
      simp only [argS, List.getElem?_map, hcs]
      rfl
  have hfin : ∀ s' n' ρ' (A' : Nat → List V → Prop), stBd E s' n' → ((match resOf P (gE E (giveAll E s' fn.results.toList)) fn.results.toList with
      | some r => if resFine args fn.results.toList = true then STree.ret r (outOf (gE E (giveAll E s' fn.results.toList)) args 0) else .stuck 124
      | none => .stuck 120) : STree).wp P (fun r os => r = res ∧ os = outs) A' ρ' → ∀ tm' w' lim' X', Sim c (sden E s' ρ') tm' w' lim' X' → ∃ v, (results fn tm').run P w' = .ok v w' ∧
        ∃ v1 lim1 X1, Ending.returned v = .returned v1 ∧ WStep w lim w' lim1 (fun b => ∃ i k, X i k = some b) ∧ outs.length = (args.map (SV.den ρ)).length ∧
          (∀ i, SlotR P w' lim1 X1 (argS (outs ++ [res])) i (argS (outs ++ [res]) i) ((cargs ++ [v1]).getD i undef)) ∧ Dist X1 ∧
          ∀ i k b, X1 i k = some b → b < w'.heap.size ∧ ((∃ i k, X i k = some b) ∨ w.heap.size ≤ b) := by
    intro s0 n' ρ' A' _ h' tm' w' lim0 X0 hsim0
    obtain ⟨lim', X', hsim'⟩ := giveAll_sim hnt (c := c) rfl (fun d v hv => by
      obtain ⟨⟨cs, hcs⟩, _⟩ := hpin d v hv
      have := argsFine_pins args 0 haf d cs hcs
      rwa [Nat.zero_add] at this) fn.results.toList hsim0
    generalize giveAll E s0 fn.results.toList = s' at h' hsim'
    split at h'
    case h_2 => exact h'.elim
    rename_i r hr
    split at h'
    case isFalse => exact h'.elim
    rename_i hfine
    obtain ⟨hres, houts⟩ := h'
    -- the value
    have hval : ∃ v, (results fn tm').run P w' = .ok v w' ∧ SlotR P w' lim' (fun i k => (srcX args fn.results.toList i k).bind fun p => X' p.1 p.2) (argS (outs ++ [res])) args.length res v := by
      have hrow : ∀ k, srcX args fn.results.toList args.length k = match fn.results.toList with
          | [r] => if k = 0 then some (resSlot r, resIx r) else none
          | rs => match k with | 0 => none | k + 1 => (rs[k]?).map fun r => (resSlot r, resIx r) := by
        intro k
        unfold srcX
        rw [if_neg (Nat.lt_irrefl _), if_pos rfl]
      unfold resOf at hr
      split at hr
      · rename_i r0 hrs
        cases hx : resOne P (gE E s') r0 with
        | none => simp [hx] at hr
        | some x =>
          simp only [hx, Option.map_some, Option.some.injEq] at hr
          subst hr
          rw [tcSV_den] at hres
          subst hres
          obtain ⟨v, h1, h2⟩ := resOne_ok (c := c) rfl hsim' hx
          refine ⟨v, ?_, cellR_slotR ?_⟩
          · exact run_results (vs := [v]) (by rw [hrs]; rfl) fun i r' v' hr' hv' => by
              rw [hrs] at hr'
              cases i with
              | zero =>
                simp only [List.getElem?_cons_zero, Option.some.injEq] at hr' hv'
                subst hr'
                subst hv'
                exact h1
              | succ i => simp at hr'
          · show CellR P w' lim' ((srcX args fn.results.toList args.length 0).bind fun p => X' p.1 p.2) _ v
            rw [hrow, hrs]
            exact h2
      · rename_i hne
        cases hx : resAll P (gE E s') fn.results.toList with
        | none => simp [hx] at hr
        | some xs =>
          simp only [hx, Option.map_some, Option.some.injEq] at hr
          subst hr
          subst hres
          obtain ⟨vs, g1, g2, g3⟩ := resAll_ok (c := c) rfl hsim' _ _ hx
          have hne1 : ∀ v, vs ≠ [v] := by
            intro v hv
            rw [hv] at g1
            obtain ⟨r', hr'⟩ := List.length_eq_one_iff.1 g1
            exact hne r' hr'
          refine ⟨.tuple vs.toArray, ?_, ?_⟩
          · have := run_results g1 fun i r' v' hr' hv' => (g3 i r' v' hr' hv').1
            rw [this]
            rcases vs with _ | ⟨v, _ | ⟨u, l⟩⟩
            · rfl
            · exact (hne1 v rfl).elim
            · rfl
          · refine ⟨vs, rfl, by simp [g2], fun i y u hy hu => ?_⟩
            rw [List.getElem?_map] at hy
            cases hxi : xs[i]? with
            | none => simp [hxi] at hy
            | some x =>
              simp only [hxi, Option.map_some, Option.some.injEq] at hy
              subst hy
              obtain ⟨r', hr'⟩ : ∃ r', fn.results.toList[i]? = some r' := ⟨_, List.getElem?_eq_getElem (by rw [g1]; exact (List.getElem?_eq_some_iff.1 hu).1)⟩
              have h3 := (g3 i r' u hr' hu).2 x hxi
              have hsrc : srcX args fn.results.toList args.length (i + 1) = some (resSlot r', resIx r') := by
                rw [hrow]
                split
                · rename_i r1 hr1; exact (hne r1 hr1).elim
                · simp [hr']
              show CellR P w' lim' ((srcX args fn.results.toList args.length (i + 1)).bind fun p => X' p.1 p.2) _ u
              rw [hsrc]
              exact h3
    obtain ⟨v, hv1, hv2⟩ := hval
    have hol : outs.length = args.length := by rw [← houts, List.length_map, outOf_len]
    refine ⟨v, hv1, v, lim', fun i k => (srcX args fn.results.toList i k).bind fun p => X' p.1 p.2, rfl, ⟨hsim'.frm.os, hsim'.frm.tape, hsim'.frm.output, hsim'.frm.size, hsim'.frm.frz, hsim'.frm.blk, hsim'.frm.ext⟩, by rw [hol, List.length_map], fun i => ?_, fun d k d' k' b hb hb' => ?_, fun i k b hb => ?_⟩
    · rcases Nat.lt_trichotomy i args.length with hi | hi | hi
      · have hout : argS (outs ++ [res]) i = match args[i]? with | some (.box _) => sden E s' ρ' i | _ => .dead := by
          simp only [argS]
          rw [List.getElem?_append_left (by omega), ← houts, List.getElem?_map, outOf_at, Nat.zero_add]
          have := List.getElem?_eq_getElem hi
          rw [this]
          cases args[i] <;> rfl
        rw [hout]
        split
        · rename_i cs hcs
          have hp := hsim'.pin i (cargs.getD i undef) (by show (match args[i]? with | some (.box _) => some (cargs.getD i undef) | _ => none) = _; rw [hcs])
          obtain ⟨p1, cs', p2⟩ := hp
          have hrl := hsim'.rel i
          rw [p2, p1] at hrl
          rw [p2]
          have hca : (cargs ++ [v]).getD i undef = cargs.getD i undef := by
            rw [List.getD_eq_getElem?_getD, List.getElem?_append_left (by omega), ← List.getD_eq_getElem?_getD]
          rw [hca]
          have hrow : (fun k => (srcX args fn.results.toList i k).bind fun p => X' p.1 p.2) = X' i := by
            funext k
            unfold srcX
            rw [if_pos hi, hcs]
            rfl
          show BoxR P w' lim' (fun k => (srcX args fn.results.toList i k).bind fun p => X' p.1 p.2) cs' _
          rw [hrow]
          exact hrl
        · trivial
      · subst hi
        have hout : argS (outs ++ [res]) args.length = res := by
          simp only [argS]
          rw [List.getElem?_append_right (by omega), hol]
          simp
        have hca : (cargs ++ [v]).getD args.length undef = v := by
          rw [List.getD_eq_getElem?_getD, List.getElem?_append_right (by omega), hcl]
          simp
        rw [hout, hca]
        exact hv2
      · have hout : argS (outs ++ [res]) i = .dead := by
          simp only [argS]
          rw [List.getElem?_eq_none (by simp; omega)]
          rfl
        rw [hout]
        trivial
    · cases hp : srcX args fn.results.toList d k with
      | none => simp [hp] at hb
      | some p =>
        cases hp' : srcX args fn.results.toList d' k' with
        | none => simp [hp'] at hb'
        | some p' =>
          simp only [hp, hp', Option.bind_some] at hb hb'
          obtain ⟨e1, e2⟩ := hsim'.dist _ _ _ _ b hb hb'
          have : p = p' := Prod.ext e1 e2
          subst this
          exact srcX_inj hfine hp hp'
    · cases hp : srcX args fn.results.toList i k with
      | none => simp [hp] at hb
      | some p =>
        simp only [hp, Option.bind_some] at hb
        exact hsim'.ours _ _ b hb
  refine ev_sound hm hps hnt (c := c) rfl rfl (fun d v hv => ?_) code 0 n _ _ _ _ _ ρ _ w lim X _ ?_ h hsim ?_ ?_ ?_
  · obtain ⟨⟨cs, hcs⟩, _⟩ := hpin d v hv
    have := argsFine_pins args 0 haf d cs hcs
    rwa [Nat.zero_add] at this
  · refine stBd_applyU hnt _ _ hlow (fun d => ?_) (argUps_bd args 0 hargs)
    unfold gE
    split <;> trivial
  · intro s' n' ρ' A' _ hs' h' tm' w' lim' X' hsim'
    obtain ⟨v, h1, h2⟩ := hfin s' n' ρ' A' hs' h' tm' w' lim' X' hsim'
    exact ⟨rfl, v, h1, h2⟩
  · intro id s' n' ρ' A' _ hs' h'
    exact h'.elim
  · intro s' n' ρ' A' _ hs' h' tm' w' lim' X' hsim'
    obtain ⟨v, h1, h2⟩ := hfin s' n' ρ' A' hs' h' tm' w' lim' X' hsim'
    exact ⟨rfl, v, h1, h2⟩

end

end Go.AM
