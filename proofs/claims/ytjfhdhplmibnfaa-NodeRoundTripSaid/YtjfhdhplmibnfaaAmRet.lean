/- What a function's tree says of its calls, with what may stand for what. Generic: no program stands in it. -/
import Derived.Test.YtjfhdhplmibnfaaAmFin
namespace Go.AM

section
variable {P : Program} {E : Env}

theorem callOk_ofR {R : AV → List AV → Prop} (hm : P.follows .mixedOrders = true) (hps : PlainSound P E.plain) {f : FuncId} {fn : Func} (hf : P.funcs[f]? = some fn) (hname : (fn.name == "runtime.NumGoroutine") = false) {args : List SV} {n : Nat} {ρ : Nat → V}
    (hargs : ∀ a ∈ args, a.bd n) {res : AV} {outs : List AV} (hR : ∀ r os, R r os → SlotsW P (os ++ [r]) (outs ++ [res])) (h : (evFn P E fn args n).wp P R (fun _ _ => False) ρ) : CallOk P f (args.map (SV.den ρ)) res outs := by
  unfold evFn at h
  split at h
  case h_2 => exact h.elim
  rename_i code hbody
  dsimp only at h
  split at h
  case isFalse => exact h.elim
  rename_i hh
  obtain ⟨hnt, hnm, hal, haf⟩ := hh
  refine ⟨⟨fn, hf, hname, by rw [hbody]; rfl⟩, ?_⟩
  intro w lim X cargs hcl hrel hdist hsize
  rw [List.length_map] at hcl
  refine calls_of_wp hf hbody ?_
  let c : Ctx := ⟨P, w, lim, fun b => ∃ i k, X i k = some b, E.nt, fun d => match args[d]? with | some (.box _) => some (cargs.getD d undef) | _ => none⟩
  have hlow : usLow E (argUps args 0) := by
    unfold usLow
    rw [List.all_eq_true]
    intro u hu
    have := argUps_low args 0 E.nt (by omega) u hu
    simpa using this
  have hσ : sden E (applyU (argUps args 0) (.leaf .dead)) ρ = argS (args.map (SV.den ρ)) := by
    rw [sden_applyU hnt ρ _ _ hlow]
    funext d
    rw [argUps_den, Nat.zero_add, Nat.sub_zero]
    split
    · rfl
    · rename_i hd
      have h1 : sden E (.leaf .dead) ρ d = .dead := by
        simp only [sden, gE]
        split <;> rfl
      have h2 : (args.map (SV.den ρ))[d]? = none := List.getElem?_eq_none (by rw [List.length_map]; omega)
      rw [h1]
      simp only [argS, h2]
      rfl
  have htm : ∀ d, d < args.length → (cargs.toArray ++ Array.replicate (fn.ntmps - cargs.toArray.size) undef).getD d undef = cargs.getD d undef := by
    intro d hd
    have h1 : d < cargs.length := by omega
    have h2 : d < (cargs.toArray ++ Array.replicate (fn.ntmps - cargs.toArray.size) undef).size := by simp; omega
    rw [Array.getD, dif_pos h2]
    simp [h1, List.getD_eq_getElem?_getD]
  have hpin : ∀ d v, c.pin d = some v → (∃ cs, args[d]? = some (.box cs)) ∧ v = cargs.getD d undef := by
    intro d v hv
    have hv' : (match args[d]? with | some (.box _) => some (cargs.getD d undef) | _ => none) = some v := hv
    split at hv'
    · rename_i cs hcs
      simp only [Option.some.injEq] at hv'
      exact ⟨⟨cs, hcs⟩, hv'.symm⟩
    · cases hv'
  have hsim : Sim c (sden E (applyU (argUps args 0) (.leaf .dead)) ρ) (cargs.toArray ++ Array.replicate (fn.ntmps - cargs.toArray.size) undef) w lim X := by
    rw [hσ]
    refine ⟨fun d => ?_, ?_, fun d hd => ?_, hdist, fun d k b hb => ⟨hsize d k b hb, .inl ⟨d, k, hb⟩⟩, ⟨rfl, rfl, rfl, Nat.le_refl _, fun _ => rfl, fun _ _ _ => ⟨rfl, rfl⟩, Ext.refl w lim⟩, fun d v hv => ?_⟩
    · by_cases hd : d < args.length
      · rw [htm d hd]
        exact hrel d
      · have : argS (args.map (SV.den ρ)) d = .dead := by
          have h2 : (args.map (SV.den ρ))[d]? = none := List.getElem?_eq_none (by rw [List.length_map]; omega)
          simp only [argS, h2]
          rfl
        rw [this]
        trivial
    · show _ = E.nt
      simp
      omega
    · have h2 : (args.map (SV.den ρ))[d]? = none := List.getElem?_eq_none (by rw [List.length_map]; have : E.nt ≤ d := hd; omega)
      simp only [argS, h2]
      rfl
    · obtain ⟨⟨cs, hcs⟩, rfl⟩ := hpin d v hv
      have hd : d < args.length := (List.getElem?_eq_some_iff.1 hcs).1
      refine ⟨htm d hd, cs.map (BC.den ρ), ?_⟩
      simp only [argS, List.getElem?_map, hcs]
      rfl
  have hfin : ∀ s' n' ρ' (A' : Nat → List V → Prop), stBd E s' n' → ((match resOf P (gE E (giveAll E s' fn.results.toList)) fn.results.toList with
      | some r => if resFine args fn.results.toList = true then STree.ret r (outOf (gE E (giveAll E s' fn.results.toList)) args 0) else .stuck 124
      | none => .stuck 120) : STree).wp P R A' ρ' → ∀ tm' w' lim' X', Sim c (sden E s' ρ') tm' w' lim' X' → ∃ v, (results fn tm').run P w' = .ok v w' ∧
        ∃ v1 lim1 X1, Ending.returned v = .returned v1 ∧ WStep w lim w' lim1 (fun b => ∃ i k, X i k = some b) ∧ outs.length = (args.map (SV.den ρ)).length ∧
          (∀ i, SlotR P w' lim1 X1 (argS (outs ++ [res])) i (argS (outs ++ [res]) i) ((cargs ++ [v1]).getD i undef)) ∧ Dist X1 ∧
          ∀ i k b, X1 i k = some b → b < w'.heap.size ∧ ((∃ i k, X i k = some b) ∨ w.heap.size ≤ b) := by
    intro s0 n' ρ' A' _ h' tm' w' lim0 X0 hsim0
    obtain ⟨lim', X', hsim'⟩ := giveAll_sim hnt (c := c) rfl (fun d v hv => by
      obtain ⟨⟨cs, hcs⟩, _⟩ := hpin d v hv
      have := argsFine_pins args 0 haf d cs hcs
      rwa [Nat.zero_add] at this) fn.results.toList hsim0
    generalize giveAll E s0 fn.results.toList = s' at h' hsim'
    split at h'
    case h_2 => exact h'.elim
    rename_i r hr
    split at h'
    case isFalse => exact h'.elim
    rename_i hfine
    obtain ⟨res0, hres⟩ : ∃ y, SV.den ρ' r = y := ⟨_, rfl⟩
    obtain ⟨outs0, houts⟩ : ∃ y, (outOf (gE E s') args 0).map (SV.den ρ') = y := ⟨_, rfl⟩
    have hww := hR _ _ h'
    rw [hres, houts] at hww
    suffices hz : ∃ v, (results fn tm').run P w' = .ok v w' ∧
        ∃ v1 lim1 X1, Ending.returned v = .returned v1 ∧ WStep w lim w' lim1 (fun b => ∃ i k, X i k = some b) ∧ outs0.length = (args.map (SV.den ρ)).length ∧
          (∀ i, SlotR P w' lim1 X1 (argS (outs0 ++ [res0])) i (argS (outs0 ++ [res0]) i) ((cargs ++ [v1]).getD i undef)) ∧ Dist X1 ∧
          ∀ i k b, X1 i k = some b → b < w'.heap.size ∧ ((∃ i k, X i k = some b) ∨ w.heap.size ≤ b) by
      obtain ⟨v, hrun, v1, lim1, X1, he, hst, hol, hr, hd, hin⟩ := hz
      obtain ⟨X3, k1, k2⟩ := slots_weak hr hww
      have hX3 : ∀ i k b, X3 i k = some b → X1 i k = some b := by
        intro i k b hb
        rcases k1 i k with e | e
        · rw [← e]; exact hb
        · rw [e] at hb; cases hb
      have hll : outs0.length = outs.length := by have := hww.1; simpa using this
      exact ⟨v, hrun, v1, lim1, X3, he, hst, by rw [← hll, hol], k2, dist_weak hd k1, fun i k b hb => hin i k b (hX3 i k b hb)⟩
    -- the value
    have hval : ∃ v, (results fn tm').run P w' = .ok v w' ∧ SlotR P w' lim' (fun i k => (srcX args fn.results.toList i k).bind fun p => X' p.1 p.2) (argS (outs0 ++ [res0])) args.length res0 v := by
      have hrow : ∀ k, srcX args fn.results.toList args.length k = match fn.results.toList with
          | [r] => if k = 0 then some (resSlot r, resIx r) else none
          | rs => match k with | 0 => none | k + 1 => (rs[k]?).map fun r => (resSlot r, resIx r) := by
        intro k
        unfold srcX
        rw [if_neg (Nat.lt_irrefl _), if_pos rfl]
        rfl
      unfold resOf at hr
      split at hr
      · rename_i r0 hrs
        cases hx : resOne P (gE E s') r0 with
        | none => simp [hx] at hr
        | some x =>
          simp only [hx, Option.map_some, Option.some.injEq] at hr
          subst hr
          rw [tcSV_den] at hres
          subst hres
          obtain ⟨v, h1, h2⟩ := resOne_ok (c := c) rfl hsim' hx
          refine ⟨v, ?_, cellR_slotR ?_⟩
          · exact run_results (vs := [v]) (by rw [hrs]; rfl) fun i r' v' hr' hv' => by
              rw [hrs] at hr'
              cases i with
              | zero =>
                simp only [List.getElem?_cons_zero, Option.some.injEq] at hr' hv'
                subst hr'
                subst hv'
                exact h1
              | succ i => simp at hr'
          · show CellR P w' lim' ((srcX args fn.results.toList args.length 0).bind fun p => X' p.1 p.2) _ v
            rw [hrow, hrs]
            exact h2
      · rename_i hne
        cases hx : resAll P (gE E s') fn.results.toList with
        | none => simp [hx] at hr
        | some xs =>
          simp only [hx, Option.map_some, Option.some.injEq] at hr
          subst hr
          subst hres
          obtain ⟨vs, g1, g2, g3⟩ := resAll_ok (c := c) rfl hsim' _ _ hx
          have hne1 : ∀ v, vs ≠ [v] := by
            intro v hv
            rw [hv] at g1
            obtain ⟨r', hr'⟩ := List.length_eq_one_iff.1 g1
            exact hne r' hr'
          refine ⟨.tuple vs.toArray, ?_, ?_⟩
          · have := run_results g1 fun i r' v' hr' hv' => (g3 i r' v' hr' hv').1
            rw [this]
            rcases vs with _ | ⟨v, _ | ⟨u, l⟩⟩
            · rfl
            · exact (hne1 v rfl).elim
            · rfl
          · refine ⟨vs, rfl, by simp [g2], fun i y u hy hu => ?_⟩
            rw [List.getElem?_map] at hy
            cases hxi : xs[i]? with
            | none => simp [hxi] at hy
            | some x =>
              simp only [hxi, Option.map_some, Option.some.injEq] at hy
              subst hy
              obtain ⟨r', hr'⟩ : ∃ r', fn.results.toList[i]? = some r' := ⟨_, List.getElem?_eq_getElem (by rw [g1]; exact (List.getElem?_eq_some_iff.1 hu).1)⟩
              have h3 := (g3 i r' u hr' hu).2 x hxi
              have hsrc : srcX args fn.results.toList args.length (i + 1) = some (resSlot r', resIx r') := by
                rw [hrow]
                split
                · rename_i r1 hr1; exact (hne r1 hr1).elim
                · simp [hr']
              show CellR P w' lim' ((srcX args fn.results.toList args.length (i + 1)).bind fun p => X' p.1 p.2) _ u
              rw [hsrc]
              exact h3
    obtain ⟨v, hv1, hv2⟩ := hval
    have hol : outs0.length = args.length := by rw [← houts, List.length_map, outOf_len]
    refine ⟨v, hv1, v, lim', fun i k => (srcX args fn.results.toList i k).bind fun p => X' p.1 p.2, rfl, ⟨hsim'.frm.os, hsim'.frm.tape, hsim'.frm.output, hsim'.frm.size, hsim'.frm.frz, hsim'.frm.blk, hsim'.frm.ext⟩, by rw [hol, List.length_map], fun i => ?_, fun d k d' k' b hb hb' => ?_, fun i k b hb => ?_⟩
    · rcases Nat.lt_trichotomy i args.length with hi | hi | hi
      · have hout : argS (outs0 ++ [res0]) i = match args[i]? with | some (.box _) => sden E s' ρ' i | _ => .dead := by
          simp only [argS]
          rw [List.getElem?_append_left (by omega), ← houts, List.getElem?_map, outOf_at, Nat.zero_add]
          have := List.getElem?_eq_getElem hi
          rw [this]
          cases args[i] <;> rfl
        rw [hout]
        split
        · rename_i cs hcs
          have hp := hsim'.pin i (cargs.getD i undef) (by show (match args[i]? with | some (.box _) => some (cargs.getD i undef) | _ => none) = _; rw [hcs])
          obtain ⟨p1, cs', p2⟩ := hp
          have hrl := hsim'.rel i
          rw [p2, p1] at hrl
          rw [p2]
          have hca : (cargs ++ [v]).getD i undef = cargs.getD i undef := by
            rw [List.getD_eq_getElem?_getD, List.getElem?_append_left (by omega), ← List.getD_eq_getElem?_getD]
          rw [hca]
          have hrow : (fun k => (srcX args fn.results.toList i k).bind fun p => X' p.1 p.2) = X' i := by
            funext k
            unfold srcX
            rw [if_pos hi, hcs]
            rfl
          show BoxR P w' lim' (fun k => (srcX args fn.results.toList i k).bind fun p => X' p.1 p.2) cs' _
          rw [hrow]
          exact hrl
        · trivial
      · subst hi
        have hout : argS (outs0 ++ [res0]) args.length = res0 := by
          simp only [argS]
          rw [List.getElem?_append_right (by omega), hol]
          simp
        have hca : (cargs ++ [v]).getD args.length undef = v := by
          rw [List.getD_eq_getElem?_getD, List.getElem?_append_right (by omega), hcl]
          simp
        rw [hout, hca]
        exact hv2
      · have hout : argS (outs0 ++ [res0]) i = .dead := by
          simp only [argS]
          rw [List.getElem?_eq_none (by simp; omega)]
          rfl
        rw [hout]
        trivial
    · cases hp : srcX args fn.results.toList d k with
      | none => simp [hp] at hb
      | some p =>
        cases hp' : srcX args fn.results.toList d' k' with
        | none => simp [hp'] at hb'
        | some p' =>
          simp only [hp, hp', Option.bind_some] at hb hb'
          obtain ⟨e1, e2⟩ := hsim'.dist _ _ _ _ b hb hb'
          have : p = p' := Prod.ext e1 e2
          subst this
          exact srcX_inj hfine hp hp'
    · cases hp : srcX args fn.results.toList i k with
      | none => simp [hp] at hb
      | some p =>
        simp only [hp, Option.bind_some] at hb
        exact hsim'.ours _ _ b hb
  refine ev_sound hm hps hnt (c := c) rfl rfl (fun d v hv => ?_) code 0 n _ _ _ _ _ ρ _ w lim X _ ?_ h hsim ?_ ?_ ?_
  · obtain ⟨⟨cs, hcs⟩, _⟩ := hpin d v hv
    have := argsFine_pins args 0 haf d cs hcs
    rwa [Nat.zero_add] at this
  · refine stBd_applyU hnt _ _ hlow (fun d => ?_) (argUps_bd args 0 hargs)
    unfold gE
    split <;> trivial
  · intro s' n' ρ' A' _ hs' h' tm' w' lim' X' hsim'
    obtain ⟨v, h1, h2⟩ := hfin s' n' ρ' A' hs' h' tm' w' lim' X' hsim'
    exact ⟨rfl, v, h1, h2⟩
  · intro id s' n' ρ' A' _ hs' h'
    exact h'.elim
  · intro s' n' ρ' A' _ hs' h' tm' w' lim' X' hsim'
    obtain ⟨v, h1, h2⟩ := hfin s' n' ρ' A' hs' h' tm' w' lim' X' hsim'
    exact ⟨rfl, v, h1, h2⟩

end

end Go.AM
