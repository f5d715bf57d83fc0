/- The evaluator of a region is sound. Generic: no program stands in it. -/
import Derived.Test.YtjfhdhplmibnfaaAmReg
namespace Go.AM

theorem Tr.get_set : ∀ (k : Nat) (t : Tr) (d i : Nat) (x : SV), d < 2 ^ k → i < 2 ^ k → (Tr.set k t d x).get i = if i = d then x else t.get i
  | 0, t, d, i, x, hd, hi => by
    have h1 : d = 0 := by simpa using hd
    have h2 : i = 0 := by simpa using hi
    subst h1
    subst h2
    rfl
  | k + 1, .node l r, d, i, x, hd, hi => by
    have hd2 : d / 2 < 2 ^ k := by rw [Nat.pow_succ] at hd; omega
    have hi2 : i / 2 < 2 ^ k := by rw [Nat.pow_succ] at hi; omega
    have ihl := Tr.get_set k l (d / 2) (i / 2) x hd2 hi2
    have ihr := Tr.get_set k r (d / 2) (i / 2) x hd2 hi2
    rcases Nat.mod_two_eq_zero_or_one d with h | h <;> rcases Nat.mod_two_eq_zero_or_one i with h' | h'
    · simp only [Tr.set, h, Tr.get, h', ihl]
      by_cases he : i = d
      · simp [he]
      · rw [if_neg he, if_neg (by omega)]
    · simp only [Tr.set, h, Tr.get, h']
      rw [if_neg (by omega)]
    · simp only [Tr.set, h, Tr.get, h']
      rw [if_neg (by omega)]
    · simp only [Tr.set, h, Tr.get, h', ihr]
      by_cases he : i = d
      · simp [he]
      · rw [if_neg he, if_neg (by omega)]
  | k + 1, .leaf y, d, i, x, hd, hi => by
    have hd2 : d / 2 < 2 ^ k := by rw [Nat.pow_succ] at hd; omega
    have hi2 : i / 2 < 2 ^ k := by rw [Nat.pow_succ] at hi; omega
    have ih := Tr.get_set k (.leaf y) (d / 2) (i / 2) x hd2 hi2
    rcases Nat.mod_two_eq_zero_or_one d with h | h <;> rcases Nat.mod_two_eq_zero_or_one i with h' | h'
    · simp only [Tr.set, h, Tr.get, h', ih]
      by_cases he : i = d
      · simp [he]
      · rw [if_neg he, if_neg (by omega)]
    · simp only [Tr.set, h, Tr.get, h']
      rw [if_neg (by omega)]
    · simp only [Tr.set, h, Tr.get, h']
      rw [if_neg (by omega)]
    · simp only [Tr.set, h, Tr.get, h', ih]
      by_cases he : i = d
      · simp [he]
      · rw [if_neg he, if_neg (by omega)]

def sden (E : Env) (s : Tr) (ρ : Nat → V) : Nat → AV := fun d => (gE E s d).den ρ
def stBd (E : Env) (s : Tr) (n : Nat) : Prop := ∀ d, (gE E s d).bd n

section
variable {P : Program} {E : Env} {R : AV → List AV → Prop} {A : Nat → List V → Prop}

theorem gE_set (hnt : E.nt ≤ 1024) {d : Nat} (hd : d < E.nt) (s : Tr) (x : SV) (i : Nat) : gE E (s.set depth d x) i = if i = d then x else gE E s i := by
  unfold gE
  by_cases hi : i < E.nt
  · rw [if_pos hi, if_pos hi]
    exact Tr.get_set 10 s d i x (by omega) (by omega)
  · rw [if_neg hi, if_neg hi, if_neg (by omega)]

theorem sden_set (hnt : E.nt ≤ 1024) {d : Nat} (hd : d < E.nt) (s : Tr) (x : SV) (ρ : Nat → V) : sden E (s.set depth d x) ρ = upd (sden E s ρ) d (x.den ρ) := by
  funext i
  simp only [sden, gE_set hnt hd, upd]
  split <;> rfl

theorem stBd_set (hnt : E.nt ≤ 1024) {d n : Nat} (hd : d < E.nt) {s : Tr} {x : SV} (hs : stBd E s n) (hx : x.bd n) : stBd E (s.set depth d x) n := by
  intro i
  rw [gE_set hnt hd]
  split
  · exact hx
  · exact hs i

def usLow (E : Env) (us : Ups) : Prop := us.all (fun u => decide (u.1 < E.nt)) = true

theorem sden_applyU (hnt : E.nt ≤ 1024) (ρ : Nat → V) : ∀ (us : Ups) (s : Tr), usLow E us → sden E (applyU us s) ρ = updL (sden E s ρ) (us.map fun u => (u.1, u.2.den ρ))
  | [], _, _ => rfl
  | (d, x) :: us, s, h => by
    simp only [usLow, List.all_cons, Bool.and_eq_true, decide_eq_true_eq] at h
    simp only [applyU, List.map_cons, updL]
    rw [sden_applyU hnt ρ us _ h.2, sden_set hnt h.1]

theorem stBd_applyU (hnt : E.nt ≤ 1024) {n : Nat} : ∀ (us : Ups) (s : Tr), usLow E us → stBd E s n → (∀ u ∈ us, u.2.bd n) → stBd E (applyU us s) n
  | [], _, _, hs, _ => hs
  | (d, x) :: us, s, h, hs, hu => by
    simp only [usLow, List.all_cons, Bool.and_eq_true, decide_eq_true_eq] at h
    exact stBd_applyU hnt us _ h.2 (stBd_set hnt h.1 hs (hu (d, x) (by simp))) fun u h' => hu u (by simp [h'])

theorem stBd_mono {s : Tr} {n n' : Nat} (h : stBd E s n) (hn : n ≤ n') : stBd E s n' := fun d => SV.bd_mono hn _ (h d)

theorem sden_congr {s : Tr} {n : Nat} {ρ ρ' : Nat → V} (h : stBd E s n) (hρ : ∀ m, m < n → ρ' m = ρ m) : sden E s ρ' = sden E s ρ := by
  funext d
  exact SV.den_congr hρ _ (h d)

theorem notBox_den {x : SV} (ρ : Nat → V) (h : ∀ cs, x ≠ .box cs) : ∀ cs, x.den ρ ≠ .box cs := by
  intro cs he
  cases x with
  | box ds => exact h ds rfl
  | c y => cases y <;> cases he
  | _ => cases he

theorem mayPutS_of {a b : AV} (ha : ∀ cs, a ≠ .box cs) (hb : (∀ cs, b ≠ .box cs) ∨ a = .dead) : mayPutS a b = true := by
  unfold mayPutS
  split
  · rename_i cs; exact (ha cs rfl).elim
  · rfl
  · rename_i h1 h2
    rcases hb with hb | hb
    · exact (hb _ rfl).elim
    · exact (h2 hb).elim
  · rfl

theorem mayPut_den {a b : SV} (ρ : Nat → V) (h : mayPut a b = true) : mayPutS (a.den ρ) (b.den ρ) = true := by
  cases a with
  | box cs => cases b <;> cases h
  | dead => exact mayPutS_of (notBox_den ρ (fun _ h => by cases h)) (.inr rfl)
  | _ =>
    cases b with
    | box cs => cases h
    | _ => exact mayPutS_of (notBox_den ρ (fun _ h => by cases h)) (.inl (notBox_den ρ (fun _ h => by cases h)))

theorem updL_append (σ : Nat → AV) : ∀ (us vs : List (Nat × AV)), updL σ (us ++ vs) = updL (updL σ us) vs
  | [], _ => rfl
  | (d, x) :: us, vs => by
    simp only [List.cons_append, updL]
    exact updL_append _ us vs

theorem yielded_of {c : Ctx} {σ : Nat → AV} {tm : Array Value} {w : World} {lim : Nat → Nat} {X : Nat → Nat → Option Nat} (h : Sim c σ tm w lim X) {ops : Array Oper} {j gd : Nat} {b : Bool}
    (hd : (ops[j]?).bind (·.dst) = some gd) (hb : σ gd = .val (.bool b)) : yielded ops tm j = some b := by
  have hlt : gd < tm.size := by
    rcases Nat.lt_or_ge gd c.nt with h1 | h1
    · rw [h.size]; exact h1
    · have := h.out gd h1; rw [hb] at this; cases this
  have hr := h.rel gd
  rw [hb] at hr
  have hv : tm.getD gd undef = .bool b := rep_val hr
  have h2 : tm[gd]? = some (.bool b) := by
    simp only [Array.getD, hlt, dite_true] at hv
    rw [Array.getElem?_eq_getElem hlt]
    exact congrArg some hv
  unfold yielded
  simp only [hd, Option.bind_some, h2]

theorem yielded_none {c : Ctx} {σ : Nat → AV} {tm : Array Value} {w : World} {lim : Nat → Nat} {X : Nat → Nat → Option Nat} (h : Sim c σ tm w lim X) {ops : Array Oper} {j gd : Nat}
    (hd : (ops[j]?).bind (·.dst) = some gd) (hb : σ gd = .tuple []) : yielded ops tm j = none := by
  have hr := h.rel gd
  rw [hb] at hr
  obtain ⟨us, h1, h2, _⟩ := hr
  have : us = [] := List.eq_nil_of_length_eq_zero h2
  subst this
  unfold yielded
  simp only [hd, Option.bind_some]
  by_cases hlt : gd < tm.size
  · simp only [Array.getD, hlt, dite_true] at h1
    have h3 : tm[gd]? = some (.tuple #[]) := by
      rw [Array.getElem?_eq_getElem hlt]
      exact congrArg some h1
    simp only [h3]
  · simp only [Array.getElem?_eq_none (Nat.le_of_not_lt hlt)]

theorem Sim.putUndef {c : Ctx} {σ : Nat → AV} {tm : Array Value} {w : World} {lim : Nat → Nat} {X : Nat → Nat → Option Nat} (h : Sim c σ tm w lim X) {d : Nat} (hd : d < c.nt) (hb : ∀ cs, σ d ≠ .box cs) :
    ∃ X', Sim c (upd σ d (.tuple [])) (tm.setIfInBounds d undef) w lim X' :=
  ⟨_, h.putRow noRow (WStep.refl w lim (fun _ => False)) (fun _ hs => hs.elim) hd (by simp) (fun i hi => getD_set_other tm d i undef hi) (.inl hb)
    ⟨[], by rw [getD_set tm d undef (by rw [h.size]; exact hd)]; rfl, rfl, by simp⟩ (fun k b hk => by simp [noRow] at hk) (fun k k' b hk => by simp [noRow] at hk)⟩

/-- What a guard says of the slots. -/
def guardOk (ops : Array Oper) (o : Oper) (σ : Nat → AV) (gs : List Nat) (v : Bool) : Prop :=
  (o.guard = none ∧ v = true) ∨ (∃ j want gd b, o.guard = some (j, want) ∧ (ops[j]?).bind (·.dst) = some gd ∧ gd ∈ gs ∧ σ gd = .val (.bool b) ∧ (v = true ↔ want = b)) ∨
  ∃ j want gd, o.guard = some (j, want) ∧ (ops[j]?).bind (·.dst) = some gd ∧ gd ∈ gs ∧ σ gd = .tuple [] ∧ v = false

theorem wanted_of {ops : Array Oper} {o : Oper} {σ : Nat → AV} {gs : List Nat} {v : Bool} (hg : guardOk ops o σ gs v) {c : Ctx} {σ' : Nat → AV} {tm : Array Value} {w : World} {lim : Nat → Nat} {X : Nat → Nat → Option Nat}
    (h : Sim c σ' tm w lim X) (hag : ∀ d ∈ gs, σ' d = σ d) : Region.wanted o (yielded ops tm) = v := by
  rcases hg with ⟨h1, h2⟩ | ⟨j, want, gd, b, h1, h2, h3, h4, h5⟩ | ⟨j, want, gd, h1, h2, h3, h4, h5⟩
  · unfold Region.wanted; rw [h1, h2]
  · have hy := yielded_of h h2 ((hag gd h3).trans h4)
    unfold Region.wanted
    rw [h1]
    simp only [hy]
    cases v <;> cases want <;> cases b <;> simp_all
  · have hy := yielded_none h h2 ((hag gd h3).trans h4)
    unfold Region.wanted
    rw [h1, h5]
    simp only [hy]
    rfl

/-- The outcome of one operation. -/
def StepGoal (P : Program) (E : Env) (R : AV → List AV → Prop) (A : Nat → List V → Prop) (ops : Array Oper) (i : Nat) (s : Tr) (ρ : Nat → V) (cont : Tr → Nat → Log → STree) : Prop :=
  ∃ (st : Stp) (ρ' : Nat → V) (n' : Nat) (s' : Tr), stBd E s' n' ∧ (cont s' n' ⟨i, st.F, st.ups.map (·.1)⟩).wp P R A ρ' ∧ StpOk P E.nt ops i (sden E s ρ) st ∧ sden E s' ρ' = updL (sden E s ρ) st.ups

variable {ops : Array Oper} {o : Oper} {i : Nat} {s : Tr} {n : Nat} {ρ : Nat → V} {cont : Tr → Nat → Log → STree} {gs : List Nat} {tk : Bool}

theorem evRun_sound (hps : PlainSound P E.plain) (hnt : E.nt ≤ 1024) (hi : ops[i]? = some o) (hs : stBd E s n) (hg : guardOk ops o (sden E s ρ) gs true) (h : (evRun P E tk o i s gs n cont).wp P R A ρ) :
    StepGoal P E R A ops i s ρ cont := by
  obtain ⟨ρ', n', x, us, fp, h1, h2, h3, h4, h5, h6⟩ := evOp_sound hps hs h
  have hσ : (fun d => (gE E s d).den ρ) = sden E s ρ := rfl
  rw [hσ] at h6
  have hs' : stBd E s n' := stBd_mono hs h1
  have hc := sden_congr hs h2
  dsimp only at h5
  split at h5
  case isFalse => exact h5.elim
  rename_i hlow
  have hfst : (us.map fun u => (u.1, u.2.den ρ')).map (·.1) = us.map (·.1) := by rw [List.map_map]; rfl
  have hden : sden E (applyU us s) ρ' = updL (sden E s ρ) (us.map fun u => (u.1, u.2.den ρ')) := by rw [sden_applyU hnt ρ' us s hlow, hc]
  split at h5
  · rename_i d hd
    split at h5
    · rename_i hh
      refine ⟨⟨usesOf o ++ gs ++ fp ++ us.map (·.1) ++ [d], (us.map fun u => (u.1, u.2.den ρ')) ++ [(d, x.den ρ')]⟩, ρ', n', (applyU us s).set depth d x, stBd_set hnt hh.1 (stBd_applyU hnt us s hlow hs' h4) h3, ?_, ⟨?_, ?_⟩, ?_⟩
      · rw [List.map_append, hfst]
        exact h5
      · intro u hu
        rcases List.mem_append.1 hu with hu | hu
        · refine List.mem_append.2 (.inl (List.mem_append.2 (.inr ?_)))
          rw [← hfst]
          exact List.mem_map.2 ⟨u, hu, rfl⟩
        · rw [List.mem_singleton] at hu
          subst hu
          simp
      · intro c hcP hcn σ' tm w lim X hag hsim Q K hK
        unfold wpOp
        simp only [hi]
        rw [wanted_of hg hsim fun d' hd' => hag d' (by simp [hd'])]
        rw [if_pos rfl]
        refine .inl (h6 c hcP σ' tm w lim X (fun d' hd' => hag d' (by
          rw [hfst] at hd'
          simp only [List.mem_append] at hd' ⊢
          rcases hd' with (hd' | hd') | hd' <;> simp [hd'])) hsim K Q fun v w' ha => ?_)
        rw [hd] at ha ⊢
        obtain ⟨lim', X', hsim'⟩ := ha (by rw [hcn]; exact hh.1) (by
          have : updL σ' (us.map fun u => (u.1, u.2.den ρ')) d = (gE E (applyU us s) d).den ρ' := by
            have h7 := congrFun hden d
            rw [updL_last] at h7 ⊢
            rw [hag d (by simp)]
            exact h7.symm
          rw [this]
          exact mayPut_den ρ' hh.2)
        refine hK _ w' lim' X' ?_
        rw [updL_append]
        exact hsim'
      · rw [sden_set hnt hh.1, hden, updL_append]
        rfl
    · exact h5.elim
  · rename_i hd
    refine ⟨⟨usesOf o ++ gs ++ fp ++ us.map (·.1), us.map fun u => (u.1, u.2.den ρ')⟩, ρ', n', applyU us s, stBd_applyU hnt us s hlow hs' h4, ?_, ⟨?_, ?_⟩, hden⟩
    · rw [hfst]
      exact h5
    · intro u hu
      refine List.mem_append.2 (.inr ?_)
      rw [← hfst]
      exact List.mem_map.2 ⟨u, hu, rfl⟩
    · intro c hcP hcn σ' tm w lim X hag hsim Q K hK
      unfold wpOp
      simp only [hi]
      rw [wanted_of hg hsim fun d' hd' => hag d' (by simp [hd'])]
      rw [if_pos rfl]
      refine .inl (h6 c hcP σ' tm w lim X (fun d' hd' => hag d' (by
        rw [hfst] at hd'
        simp only [List.mem_append] at hd' ⊢
        rcases hd' with (hd' | hd') | hd' <;> simp [hd'])) hsim K Q fun v w' ha => ?_)
      rw [hd] at ha ⊢
      obtain ⟨lim', X', hsim'⟩ := ha
      exact hK _ w' lim' X' hsim'

theorem evSkip_sound (hnt : E.nt ≤ 1024) (hi : ops[i]? = some o) (hs : stBd E s n) (hg : guardOk ops o (sden E s ρ) gs false) (h : (evSkip E o i s gs n cont).wp P R A ρ) :
    StepGoal P E R A ops i s ρ cont := by
  unfold evSkip at h
  split at h
  · rename_i d hd
    split at h
    · rename_i hh
      refine ⟨⟨gs ++ [d], [(d, .tuple [])]⟩, ρ, n, s.set depth d (.tuple []), stBd_set hnt hh.1 hs (by simp [SV.bd]), h, ⟨by simp, ?_⟩, sden_set hnt hh.1 _ _ _⟩
      intro c hcP hcn σ' tm w lim X hag hsim Q K hK
      unfold wpOp
      simp only [hi]
      rw [wanted_of hg hsim fun d' hd' => hag d' (by simp [hd'])]
      rw [if_neg (by simp), hd]
      obtain ⟨X', hs'⟩ := hsim.putUndef (d := d) (by rw [hcn]; exact hh.1) (by
        rw [hag d (by simp)]
        exact mayPutS_old (mayPut_den ρ hh.2))
      exact hK _ w lim X' hs'
    · exact h.elim
  · rename_i hd
    refine ⟨⟨gs, []⟩, ρ, n, s, hs, h, ⟨by simp, ?_⟩, rfl⟩
    intro c hcP hcn σ' tm w lim X hag hsim Q K hK
    unfold wpOp
    simp only [hi]
    rw [wanted_of hg hsim hag]
    rw [if_neg (by simp), hd]
    exact hK _ w lim X hsim

theorem sden_refine (hnt : E.nt ≤ 1024) {t : Nat} {b : BE} {v : Bool} (hb : gE E s t = .c (.bool b)) (hv : b.den ρ = v) : t < E.nt ∧ sden E (s.set depth t (.c (.bool (.lit v)))) ρ = sden E s ρ := by
  have hlt : t < E.nt := by
    unfold gE at hb
    split at hb
    · assumption
    · cases hb
  refine ⟨hlt, ?_⟩
  rw [sden_set hnt hlt]
  funext d
  by_cases hd : d = t
  · subst hd
    rw [upd_same]
    simp only [sden, hb, SV.den, SC.den, hv, BE.den]
  · rw [upd_other _ _ hd]

theorem evStep_sound (hps : PlainSound P E.plain) (hnt : E.nt ≤ 1024) (hi : ops[i]? = some o) (hs : stBd E s n) (h : (evStep P E tk ops o i s n cont).wp P R A ρ) : StepGoal P E R A ops i s ρ cont := by
  unfold evStep at h
  split at h
  · rename_i hg
    exact evRun_sound hps hnt hi hs (.inl ⟨hg, rfl⟩) h
  · rename_i j want hg
    split at h
    · exact h.elim
    · rename_i gd hgd
      split at h
      · rename_i hb
        have hv : sden E s ρ gd = .tuple [] := by simp only [sden, hb]; rfl
        exact evSkip_sound hnt hi hs (.inr (.inr ⟨j, want, gd, hg, hgd, by simp, hv, rfl⟩)) h
      · rename_i b hb
        have hv : sden E s ρ gd = .val (.bool b) := by simp only [sden, hb]; rfl
        split at h
        · rename_i hw
          exact evRun_sound hps hnt hi hs (.inr (.inl ⟨j, want, gd, b, hg, hgd, by simp, hv, by simp [hw]⟩)) h
        · rename_i hw
          exact evSkip_sound hnt hi hs (.inr (.inl ⟨j, want, gd, b, hg, hgd, by simp, hv, by simp [hw]⟩)) h
      · rename_i b _ hb
        obtain ⟨ht, hf⟩ := h
        have hcase : ∀ v, b.den ρ = v → (if want = v then evRun P E tk o i (s.set depth gd (.c (.bool (.lit v)))) [gd] n cont else evSkip E o i (s.set depth gd (.c (.bool (.lit v)))) [gd] n cont).wp P R A ρ → StepGoal P E R A ops i s ρ cont := by
          intro v hv hw
          obtain ⟨hlt, hsame⟩ := sden_refine hnt hb hv
          have hbd : stBd E (s.set depth gd (.c (.bool (.lit v)))) n := stBd_set hnt hlt hs trivial
          have hval : sden E (s.set depth gd (.c (.bool (.lit v)))) ρ gd = .val (.bool v) := by rw [hsame]; simp only [sden, hb, SV.den, SC.den, hv]
          have hgoal : StepGoal P E R A ops i (s.set depth gd (.c (.bool (.lit v)))) ρ cont := by
            split at hw
            · rename_i hw'
              exact evRun_sound hps hnt hi hbd (.inr (.inl ⟨j, want, gd, v, hg, hgd, by simp, hval, by simp [hw']⟩)) hw
            · rename_i hw'
              exact evSkip_sound hnt hi hbd (.inr (.inl ⟨j, want, gd, v, hg, hgd, by simp, hval, by simp [hw']⟩)) hw
          unfold StepGoal at hgoal ⊢
          rw [hsame] at hgoal
          exact hgoal
        cases hv : b.den ρ with
        | true => exact hcase true hv (ht hv)
        | false => exact hcase false hv (hf hv)
      · exact h.elim

def logsOf : Nat → List Stp → List Log
  | _, [] => []
  | i, s :: ss => logsOf (i + 1) ss ++ [⟨i, s.F, s.ups.map (·.1)⟩]

theorem logsOf_mem : ∀ (ss : List Stp) (i j : Nat) (s : Stp), ss[j]? = some s → (⟨i + j, s.F, s.ups.map (·.1)⟩ : Log) ∈ logsOf i ss
  | [], i, j, s, h => by simp at h
  | s0 :: ss, i, 0, s, h => by
    simp only [List.getElem?_cons_zero, Option.some.injEq] at h
    subst h
    simp [logsOf]
  | s0 :: ss, i, j + 1, s, h => by
    have := logsOf_mem ss (i + 1) j s (by simpa using h)
    rw [show i + (j + 1) = i + 1 + j by omega]
    exact List.mem_append.2 (.inl this)

theorem evOps_sound (hps : PlainSound P E.plain) (hnt : E.nt ≤ 1024) {tks : Nat → Bool} {k : Tr → Nat → List Log → STree} : ∀ (l : List Oper) (i : Nat) (s : Tr) (n : Nat) (logs : List Log) (ρ : Nat → V), (∀ j, l[j]? = ops[i + j]?) → stBd E s n →
    (evOps P E tks ops l i s n logs k).wp P R A ρ → ∃ (ss : List Stp) (ρ' : Nat → V) (n' : Nat) (s' : Tr), ss.length = l.length ∧ stBd E s' n' ∧ (k s' n' (logsOf i ss ++ logs)).wp P R A ρ' ∧
      Chain P E.nt ops i (sden E s ρ) ss ∧ sden E s' ρ' = runS (sden E s ρ) ss
  | [], i, s, n, logs, ρ, _, hs, h => ⟨[], ρ, n, s, rfl, hs, h, trivial, rfl⟩
  | o :: l, i, s, n, logs, ρ, hl, hs, h => by
    have h0 : ops[i]? = some o := by simpa using (hl 0).symm
    obtain ⟨st, ρ1, n1, s1, g1, g2, g3, g4⟩ := evStep_sound hps hnt h0 hs h
    obtain ⟨ss, ρ2, n2, s2, k1, k2, k3, k4, k5⟩ := evOps_sound hps hnt l (i + 1) s1 n1 _ ρ1 (fun j => by
      have := hl (j + 1)
      rw [show i + (j + 1) = i + 1 + j by omega] at this
      simpa using this) g1 g2
    refine ⟨st :: ss, ρ2, n2, s2, by simp [k1], k2, ?_, ⟨g3, ?_⟩, ?_⟩
    · simp only [logsOf, List.append_assoc, List.singleton_append]
      exact k3
    · rw [← g4]; exact k4
    · simp only [runS]
      rw [← g4]; exact k5

theorem disj_ok {a b : List Nat} (h : disj a b = true) : ∀ d ∈ a, d ∉ b := by
  intro d hd
  simp only [disj, List.all_eq_true] at h
  simpa using h d hd

theorem region_sound (hm : P.follows .mixedOrders = true) (hps : PlainSound P E.plain) (hnt : E.nt ≤ 1024) {id : Nat} {draw : Bool} {k : Tr → Nat → STree} {tks : Nat → Bool} (hs : stBd E s n)
    (h : (evOps P E tks ops ops.toList 0 s n [] fun s' n' logs => if draw = true then (if indepOk ops logs = true then k s' n' else .stuck 114) else k s' n').wp P R A ρ)
    {c : Ctx} (hcP : c.P = P) (hcn : c.nt = E.nt) {tm : Array Value} {w : World} {lim : Nat → Nat} {X : Nat → Nat → Option Nat} (hsim : Sim c (sden E s ρ) tm w lim X) {Q : Exit → Act → World → Prop}
    (hk : ∀ s' n' ρ', stBd E s' n' → (k s' n').wp P R A ρ' → ∀ tm' w' lim' X', Sim c (sden E s' ρ') tm' w' lim' X' → Q .normal ⟨tm', []⟩ w') : (Code.region id ops draw).wp P Q ⟨tm, []⟩ w := by
  obtain ⟨ss, ρ', n', s', h1, h2, h3, h4, h5⟩ := evOps_sound hps hnt ops.toList 0 s n [] ρ (by simp) hs h
  have hlen : ss.length = ops.size := by simpa using h1
  cases draw with
  | false =>
    refine wp_region ?_
    rw [List.range_eq_range', ← hlen]
    refine chain_text hcP hcn ss 0 _ tm w lim X h4 hsim fun tm' w' lim' X' hs' => hk s' n' ρ' h2 (by simpa using h3) tm' w' lim' X' ?_
    rw [h5]; exact hs'
  | true =>
    simp only [if_true] at h3
    split at h3
    · rename_i hi
      rw [List.append_nil] at hi
      simp only [indepOk, Bool.and_eq_true, CheckFast.beforeF_eq] at hi
      obtain ⟨hlow, hind⟩ := hi
      refine wp_region_any hm ?_
      have hsd : Sim c (sden E s ρ) tm w.drew lim X := hsim.world (WStep.refl w lim fun _ => False).drew fun b hb => hb.elim
      refine chain_any hcP hcn h4 hlen ?_ ?_ (fun tm' w' lim' X' hs' => hk s' n' ρ' h2 h3 tm' w' lim' X' (by rw [h5]; exact hs')) ops.size _ tm w.drew lim X (by simp) ?_ ?_ ?_
      · intro i o hio e he hb
        rw [List.all_eq_true] at hlow
        have := hlow (o, i) (by
          rw [List.mem_zipIdx_iff_getElem?]
          simpa using hio)
        rw [Array.all_eq_true_iff_forall_mem] at this
        have := this e he
        simpa [hb] using this
      · rintro i j a b hia hjb hji ⟨S, hS, hSi, hSj⟩
        rw [List.all_eq_true] at hind
        have m1 := logsOf_mem ss 0 i a hia
        have m2 := logsOf_mem ss 0 j b hjb
        rw [Nat.zero_add] at m1 m2
        have := hind _ m1
        rw [List.all_eq_true] at this
        have := this _ m2
        simp only [Bool.or_eq_true, Bool.and_eq_true, Bool.not_eq_true', decide_eq_false_iff_not] at this
        rcases this with (this | this) | this
        · exact (this hji).elim
        · exact (hSj (before_closed hS i j hSi this)).elim
        · exact ⟨disj_ok this.1, disj_ok this.2⟩
      · intro k o hk hl
        have hlt := (Array.getElem?_eq_some_iff.1 hk).1
        simp [Array.getD, hlt] at hl
      · have := List.countP_le_length (p := fun i => !(Array.replicate ops.size false).getD i false) (l := List.range ops.size)
        simpa using this
      · rw [comp_none]
        · exact hsd
        · intro j _ hj
          simp [Array.getD]
    · exact h3.elim

end

end Go.AM
