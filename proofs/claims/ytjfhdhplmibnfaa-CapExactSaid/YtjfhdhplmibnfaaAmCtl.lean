/- The evaluator of a function's code is sound. Generic: no program stands in it. -/
import Derived.Test.YtjfhdhplmibnfaaAmEvo
import Derived.LoopN
import Derived.Scope
namespace Go.AM

def Fill (ρ : Nat → V) (n : Nat) (l : List V) : Prop := ∀ (j : Nat) (v : V), l[j]? = some v → ρ (n + j) = v

theorem Fill.tail {ρ : Nat → V} {n : Nat} {v : V} {l : List V} (h : Fill ρ n (v :: l)) : ρ n = v ∧ Fill ρ (n + 1) l :=
  ⟨h 0 v rfl, fun j u hj => by rw [show n + 1 + j = n + (j + 1) by omega]; exact h (j + 1) u (by simpa using hj)⟩

theorem Fill.app {ρ : Nat → V} {n : Nat} {l l' : List V} (h : Fill ρ n (l ++ l')) : Fill ρ n l ∧ Fill ρ (n + l.length) l' :=
  ⟨fun j v hj => h j v (by rw [List.getElem?_append_left (List.getElem?_eq_some_iff.1 hj).1]; exact hj),
   fun j v hj => by
    rw [show n + l.length + j = n + (l.length + j) by omega]
    exact h _ v (by rw [List.getElem?_append_right (by omega)]; simpa using hj)⟩

theorem Fill.bind (ρ : Nat → V) (n : Nat) (vs : List V) : Fill (bind ρ n vs) n vs := by
  intro j v hj
  unfold AM.bind
  rw [if_neg (by omega), show n + j - n = j by omega, hj]
  rfl

theorem havocC_den {ρ ρ' : Nat → V} {n : Nat} {c c' : SC} (h : sameC c c' = true) (hv : ρ n = (veC c').den ρ') : (havocC c n).den ρ = c'.den ρ' := by
  cases c <;> cases c' <;> simp only [sameC, Bool.false_eq_true] at h
  · rw [decide_eq_true_eq] at h
    subst h
    simp only [havocC, SC.den, IE.den, hv]
    rfl
  · simp only [havocC, SC.den, BE.den, hv]
    rfl
  · simp only [havocC, SC.den, SE.den, hv]
    rfl
  · simp only [Bool.and_eq_true, beq_iff_eq] at h
    obtain ⟨rfl, rfl⟩ := h
    simp only [havocC, SC.den, LE.den, hv]
    rfl

theorem havocC_bd (c : SC) (n : Nat) : (havocC c n).bd (n + 1) := by cases c <;> exact Nat.lt_succ_self n

theorem havocCs_den {ρ ρ' : Nat → V} : ∀ (cs cs' : List SC) (n n' : Nat), sameCs cs cs' = true → Fill ρ n ((havocCs cs' n').2.1.map (VE.den ρ')) →
    (havocCs cs n).1.map (SC.den ρ) = cs'.map (SC.den ρ') ∧ (havocCs cs n).2.2 = n + (havocCs cs' n').2.1.length ∧ (havocCs cs n).2.1.length = (havocCs cs' n').2.1.length
  | [], [], n, n', _, _ => ⟨rfl, rfl, rfl⟩
  | [], _ :: _, _, _, h, _ => by simp [sameCs] at h
  | _ :: _, [], _, _, h, _ => by simp [sameCs] at h
  | c :: cs, c' :: cs', n, n', h, hf => by
    simp only [sameCs, Bool.and_eq_true] at h
    simp only [havocCs, List.map_cons] at hf
    obtain ⟨h1, h2⟩ := hf.tail
    obtain ⟨i1, i2, i3⟩ := havocCs_den cs cs' (n + 1) (n' + 1) h.2 h2
    refine ⟨?_, ?_, ?_⟩
    · simp only [havocCs, List.map_cons, i1, havocC_den h.1 h1]
    · simp only [havocCs, List.length_cons, i2]; omega
    · simp only [havocCs, List.length_cons, i3]

theorem havocCs_bd : ∀ (cs : List SC) (n : Nat), n ≤ (havocCs cs n).2.2 ∧ ∀ c ∈ (havocCs cs n).1, c.bd (havocCs cs n).2.2
  | [], n => ⟨Nat.le_refl _, by simp [havocCs]⟩
  | c :: cs, n => by
    obtain ⟨h1, h2⟩ := havocCs_bd cs (n + 1)
    refine ⟨by simp only [havocCs]; omega, fun x hx => ?_⟩
    simp only [havocCs] at hx ⊢
    rcases List.mem_cons.1 hx with rfl | hx
    · exact SC.bd_mono h1 _ (havocC_bd c n)
    · exact h2 x hx

theorem havocBs_den {ρ ρ' : Nat → V} : ∀ (cs cs' : List BC) (n n' : Nat), sameBs cs cs' = true → Fill ρ n ((havocBs cs' n').2.1.map (VE.den ρ')) →
    (havocBs cs n).1.map (BC.den ρ) = cs'.map (BC.den ρ') ∧ (havocBs cs n).2.2 = n + (havocBs cs' n').2.1.length ∧ (havocBs cs n).2.1.length = (havocBs cs' n').2.1.length
  | [], [], n, n', _, _ => ⟨rfl, rfl, rfl⟩
  | [], _ :: _, _, _, h, _ => by simp [sameBs] at h
  | .c _ :: _, [], _, _, h, _ => by simp [sameBs] at h
  | .own _ _ :: _, [], _, _, h, _ => by simp [sameBs] at h
  | .c _ :: _, .own _ _ :: _, _, _, h, _ => by simp [sameBs] at h
  | .own _ _ :: _, .c _ :: _, _, _, h, _ => by simp [sameBs] at h
  | .c c :: cs, .c c' :: cs', n, n', h, hf => by
    simp only [sameBs, Bool.and_eq_true] at h
    simp only [havocBs, List.map_cons] at hf
    obtain ⟨h1, h2⟩ := hf.tail
    obtain ⟨i1, i2, i3⟩ := havocBs_den cs cs' (n + 1) (n' + 1) h.2 h2
    refine ⟨?_, ?_, ?_⟩
    · simp only [havocBs, List.map_cons, i1, BC.den, havocC_den h.1 h1]
    · simp only [havocBs, List.length_cons, i2]; omega
    · simp only [havocBs, List.length_cons, i3]
  | .own e l :: cs, .own e' l' :: cs', n, n', h, hf => by
    simp only [sameBs, Bool.and_eq_true, beq_iff_eq] at h
    simp only [havocBs, List.map_cons] at hf
    obtain ⟨h1, h2⟩ := hf.tail
    obtain ⟨i1, i2, i3⟩ := havocBs_den cs cs' (n + 1) (n' + 1) h.2 h2
    obtain ⟨rfl, _⟩ := h
    refine ⟨?_, ?_, ?_⟩
    · simp only [havocBs, List.map_cons, i1, BC.den, LE.den, h1, VE.den, V.list]
    · simp only [havocBs, List.length_cons, i2]; omega
    · simp only [havocBs, List.length_cons, i3]

theorem havocBs_bd : ∀ (cs : List BC) (n : Nat), n ≤ (havocBs cs n).2.2 ∧ ∀ c ∈ (havocBs cs n).1, c.bd (havocBs cs n).2.2
  | [], n => ⟨Nat.le_refl _, by simp [havocBs]⟩
  | .c c :: cs, n => by
    obtain ⟨h1, h2⟩ := havocBs_bd cs (n + 1)
    refine ⟨by simp only [havocBs]; omega, fun x hx => ?_⟩
    simp only [havocBs] at hx ⊢
    rcases List.mem_cons.1 hx with rfl | hx
    · exact SC.bd_mono h1 _ (havocC_bd c n)
    · exact h2 x hx
  | .own e l :: cs, n => by
    obtain ⟨h1, h2⟩ := havocBs_bd cs (n + 1)
    refine ⟨by simp only [havocBs]; omega, fun x hx => ?_⟩
    simp only [havocBs] at hx ⊢
    rcases List.mem_cons.1 hx with rfl | hx
    · show n < _; omega
    · exact h2 x hx

theorem havocV_den {ρ ρ' : Nat → V} {x y : SV} {n n' : Nat} (h : sameV x y = true) (hf : Fill ρ n ((havocV y n').2.1.map (VE.den ρ'))) :
    (havocV x n).1.den ρ = y.den ρ' ∧ (havocV x n).2.2 = n + (havocV y n').2.1.length ∧ (havocV x n).2.1.length = (havocV y n').2.1.length := by
  cases x <;> cases y <;> simp only [sameV, Bool.false_eq_true] at h
  · exact ⟨rfl, rfl, rfl⟩
  · exact ⟨rfl, rfl, rfl⟩
  · exact ⟨havocC_den h (hf 0 _ rfl), rfl, rfl⟩
  · obtain ⟨h1, h2, h3⟩ := havocCs_den _ _ n n' h hf
    exact ⟨by simp only [havocV, SV.den, h1], h2, h3⟩
  · rw [beq_iff_eq] at h
    subst h
    have := hf 0 _ rfl
    rw [Nat.add_zero] at this
    exact ⟨by simp only [havocV, SV.den, LE.den, this, VE.den, V.list], rfl, rfl⟩
  · obtain ⟨h1, h2, h3⟩ := havocBs_den _ _ n n' h hf
    exact ⟨by simp only [havocV, SV.den, h1], h2, h3⟩
  · simp only [Bool.and_eq_true, beq_iff_eq] at h
    obtain ⟨rfl, rfl⟩ := h
    exact ⟨rfl, rfl, rfl⟩

theorem havocV_bd {x : SV} {n : Nat} (h : sameV x x = true) : n ≤ (havocV x n).2.2 ∧ (havocV x n).1.bd (havocV x n).2.2 := by
  cases x with
  | dead => exact ⟨Nat.le_refl _, trivial⟩
  | gone => exact ⟨Nat.le_refl _, trivial⟩
  | c c => exact ⟨Nat.le_succ _, havocC_bd c n⟩
  | agg cs => exact havocCs_bd cs n
  | own e l => exact ⟨Nat.le_succ _, Nat.lt_succ_self n⟩
  | box cs => exact havocBs_bd cs n
  | ptr d o => exact ⟨Nat.le_refl _, trivial⟩
  | tuple _ => cases h
  | eptr _ => cases h

theorem sameC_refl (c : SC) : sameC c c = true := by cases c <;> simp [sameC]
theorem sameCs_refl : ∀ (l : List SC), sameCs l l = true
  | [] => rfl
  | c :: l => by simp [sameCs, sameC_refl, sameCs_refl l]
theorem sameBs_refl : ∀ (l : List BC), sameBs l l = true
  | [] => rfl
  | .c c :: l => by simp [sameBs, sameC_refl, sameBs_refl l]
  | .own e x :: l => by simp [sameBs, sameBs_refl l]

theorem headOf_den {ρ ρ' : Nat → V} {g g' : Nat → SV} : ∀ (keep : List Nat) (n n' : Nat), (∀ d ∈ keep, sameV (g d) (g' d) = true) → Fill ρ n ((headOf keep g' n').2.1.map (VE.den ρ')) →
    (∀ u ∈ (headOf keep g n).1, u.1 ∈ keep ∧ u.2.den ρ = (g' u.1).den ρ') ∧ (headOf keep g n).1.map (·.1) = keep ∧ (headOf keep g n).2.1.length = (headOf keep g' n').2.1.length
  | [], n, n', _, _ => ⟨by simp [headOf], rfl, rfl⟩
  | d :: keep, n, n', h, hf => by
    simp only [headOf, List.map_append] at hf
    obtain ⟨f1, f2⟩ := hf.app
    obtain ⟨h1, h2, h3⟩ := havocV_den (h d (by simp)) f1
    rw [List.length_map, ← h2] at f2
    obtain ⟨i1, i2, i3⟩ := headOf_den keep _ _ (fun d hd => h d (by simp [hd])) f2
    refine ⟨fun u hu => ?_, ?_, ?_⟩
    · simp only [headOf] at hu
      rcases List.mem_cons.1 hu with rfl | hu
      · exact ⟨by simp, h1⟩
      · exact ⟨by simp [(i1 u hu).1], (i1 u hu).2⟩
    · simp only [headOf, List.map_cons, i2]
    · simp only [headOf, List.length_append, i3, h3]

theorem headOf_bd {g : Nat → SV} : ∀ (keep : List Nat) (n : Nat), (∀ d ∈ keep, sameV (g d) (g d) = true) → n ≤ (headOf keep g n).2.2 ∧ ∀ u ∈ (headOf keep g n).1, u.2.bd (headOf keep g n).2.2
  | [], n, _ => ⟨Nat.le_refl _, by simp [headOf]⟩
  | d :: keep, n, h => by
    obtain ⟨h1, h2⟩ := havocV_bd (n := n) (h d (by simp))
    obtain ⟨i1, i2⟩ := headOf_bd keep (havocV (g d) n).2.2 (fun d hd => h d (by simp [hd]))
    refine ⟨by simp only [headOf]; omega, fun u hu => ?_⟩
    simp only [headOf] at hu ⊢
    rcases List.mem_cons.1 hu with rfl | hu
    · exact SV.bd_mono i1 _ h2
    · exact i2 u hu

theorem lastV_mem : ∀ (us : List (Nat × AV)) (d : Nat) (x : AV), lastV us d = some x → (d, x) ∈ us
  | [], d, x, h => by cases h
  | (e, y) :: us, d, x, h => by
    simp only [lastV] at h
    split at h
    · rename_i z hz
      simp only [Option.some.injEq] at h
      subst h
      exact List.mem_cons_of_mem _ (lastV_mem us d z hz)
    · split at h
      · rename_i hd
        simp only [Option.some.injEq] at h
        subst h
        subst hd
        exact List.mem_cons_self
      · cases h

def keepS (keep : List Nat) (σ : Nat → AV) : Nat → AV := fun d => if d ∈ keep then σ d else .dead

theorem killOk_spec {E : Env} {keep : List Nat} {g : Nat → SV} (h : killOk E keep g = true) :
    (∀ d ∈ E.pins, d ∈ keep) ∧ ∀ d ∈ keep, d < E.nt ∧ (∀ d' off, g d = .ptr d' off → d' ∈ keep) ∧ sameV (g d) (g d) = true := by
  simp only [killOk, Bool.and_eq_true, List.all_eq_true, decide_eq_true_eq, List.contains_iff_mem] at h
  refine ⟨h.1, fun d hd => ⟨(h.2 d hd).1, fun d' off he => ?_, ?_⟩⟩
  · have := (h.2 d hd).2
    rw [he] at this
    simpa using this
  · have := (h.2 d hd).2
    cases hg : g d with
    | tuple vs => rw [hg] at this; cases this
    | eptr cs => rw [hg] at this; cases this
    | c c => exact sameC_refl c
    | agg cs => exact sameCs_refl cs
    | own e l => simp [sameV]
    | box cs => exact sameBs_refl cs
    | ptr d' o => simp [sameV]
    | dead => rfl
    | gone => rfl

/-- The head of a loop stands for what is kept. -/
theorem head_den {E : Env} (hnt : E.nt ≤ 1024) {keep : List Nat} {g : Nat → SV} {s' : Tr} {n n' : Nat} {ρ ρ' : Nat → V} (hlow : ∀ d ∈ keep, d < E.nt) (hsame : ∀ d ∈ keep, sameV (g d) (gE E s' d) = true)
    (hf : Fill ρ n ((headOf keep (gE E s') n').2.1.map (VE.den ρ'))) : sden E (applyU (headOf keep g n).1 (.leaf .dead)) ρ = keepS keep (sden E s' ρ') := by
  obtain ⟨h1, h2, _⟩ := headOf_den keep n n' hsame hf
  have hl : usLow E (headOf keep g n).1 := by
    unfold usLow
    rw [List.all_eq_true]
    intro u hu
    have := hlow u.1 (h1 u hu).1
    simpa using this
  rw [sden_applyU hnt ρ _ _ hl]
  funext d
  rw [updL_last]
  have hfst : ((headOf keep g n).1.map fun u => (u.1, u.2.den ρ)).map (·.1) = keep := by rw [List.map_map]; exact h2
  have hdead : sden E (.leaf .dead) ρ d = .dead := by
    simp only [sden, gE]
    split <;> rfl
  unfold keepS
  by_cases hd : d ∈ keep
  · rw [if_pos hd]
    obtain ⟨x, hx⟩ := lastV_some ((headOf keep g n).1.map fun u => (u.1, u.2.den ρ)) d (by rw [hfst]; exact hd)
    rw [hx]
    obtain ⟨u, hu, he⟩ := List.mem_map.1 (lastV_mem _ _ _ hx)
    simp only [Prod.mk.injEq] at he
    obtain ⟨rfl, rfl⟩ := he
    exact (h1 u hu).2
  · rw [if_neg hd, lastV_none _ d (by rw [hfst]; exact hd), hdead]
    rfl

theorem SlotR.chg2 {P : Program} {w : World} {lim : Nat → Nat} {X X' : Nat → Nat → Option Nat} {σ σ' : Nat → AV} {d : Nat} {x : AV} {v : Value}
    (h : SlotR P w lim X σ d x v) (hX : X' d = X d) (hp : ∀ d' off, x = .ptr d' off → σ' d' = σ d' ∧ X' d' = X d') : SlotR P w lim X' σ' d x v := by
  cases x with
  | ptr d' off =>
    obtain ⟨b, cs, h1, h2, h3⟩ := h
    obtain ⟨h4, h5⟩ := hp d' off rfl
    exact ⟨b, cs, by rw [h5]; exact h1, by rw [h4]; exact h2, h3⟩
  | own e xs => show OwnR P w lim e xs v (X' d 0); rw [hX]; exact h
  | box cs => show BoxR P w lim (X' d) cs v; rw [hX]; exact h
  | tuple vs =>
    obtain ⟨us, h1, h2, h3⟩ := h
    refine ⟨us, h1, h2, ?_⟩
    rw [hX]
    exact h3
  | dead => trivial
  | gone => trivial
  | eptr cs => exact h
  | val v => exact h
  | agg cs => exact h
  | slice f s xs => exact h

theorem ptr_of_den {x : SV} {ρ : Nat → V} {d off : Nat} (h : x.den ρ = .ptr d off) : x = .ptr d off := by
  cases x with
  | ptr d' o => injection h with h1 h2; rw [h1, h2]
  | c y => cases y <;> cases h
  | _ => cases h

theorem Sim.keep {c : Ctx} {E : Env} {s : Tr} {ρ : Nat → V} {tm : Array Value} {w : World} {lim : Nat → Nat} {X : Nat → Nat → Option Nat} (h : Sim c (sden E s ρ) tm w lim X) {keep : List Nat}
    (hk : killOk E keep (gE E s) = true) (hpin : ∀ d v, c.pin d = some v → d ∈ E.pins) : ∃ X', Sim c (keepS keep (sden E s ρ)) tm w lim X' := by
  obtain ⟨k1, k2⟩ := killOk_spec hk
  refine ⟨fun d => if d ∈ keep then X d else noRow, fun d => ?_, h.size, fun d hd => ?_, fun d k d' k' b hb hb' => ?_, fun d k b hb => ?_, h.frm, fun d v hv => ?_⟩
  · unfold keepS
    by_cases hd : d ∈ keep
    · rw [if_pos hd]
      refine (h.rel d).chg2 (by simp only [hd, if_true]) fun d' off hp => ?_
      have := (k2 d hd).2.1 d' off (ptr_of_den hp)
      simp only [this, if_true]
      exact ⟨trivial, trivial⟩
    · rw [if_neg hd]
      trivial
  · unfold keepS
    split
    · exact h.out d hd
    · rfl
  · split at hb <;> split at hb'
    · exact h.dist d k d' k' b hb hb'
    · cases hb'
    · cases hb
    · cases hb
  · split at hb
    · exact h.ours d k b hb
    · cases hb
  · obtain ⟨h1, h2⟩ := h.pin d v hv
    refine ⟨h1, ?_⟩
    unfold keepS
    rw [if_pos (k1 d (hpin d v hv))]
    exact h2

section
variable {P : Program} {E : Env} {R : AV → List AV → Prop}

def Below1 (lv : Nat) (A A' : Nat → List V → Prop) : Prop := ∀ i, i < lv → A' i = A i

theorem ev_sound (hm : P.follows .mixedOrders = true) (hps : PlainSound P E.plain) (hnt : E.nt ≤ 1024) {c : Ctx} (hcP : c.P = P) (hcn : c.nt = E.nt) (hpin : ∀ d v, c.pin d = some v → d ∈ E.pins) :
    ∀ (code : Code) (lv n : Nat) (s : Tr) (kn : Tr → Nat → STree) (kx : Nat → Tr → Nat → STree) (kr : Tr → Nat → STree) (A : Nat → List V → Prop) (ρ : Nat → V) (tm : Array Value) (w : World) (lim : Nat → Nat) (X : Nat → Nat → Option Nat)
      (Q : Exit → Act → World → Prop), stBd E s n → (ev P E lv code s n kn kx kr).wp P R A ρ → Sim c (sden E s ρ) tm w lim X →
      (∀ s' n' ρ' A', Below1 lv A A' → stBd E s' n' → (kn s' n').wp P R A' ρ' → ∀ tm' w' lim' X', Sim c (sden E s' ρ') tm' w' lim' X' → Q .normal ⟨tm', []⟩ w') →
      (∀ id s' n' ρ' A', Below1 lv A A' → stBd E s' n' → (kx id s' n').wp P R A' ρ' → ∀ tm' w' lim' X', Sim c (sden E s' ρ') tm' w' lim' X' → Q (.exit id) ⟨tm', []⟩ w') →
      (∀ s' n' ρ' A', Below1 lv A A' → stBd E s' n' → (kr s' n').wp P R A' ρ' → ∀ tm' w' lim' X', Sim c (sden E s' ρ') tm' w' lim' X' → Q .ret ⟨tm', []⟩ w') →
      code.wp P Q ⟨tm, []⟩ w := by
  intro code
  induction code with
  | skip => intro lv n s kn kx kr A ρ tm w lim X Q hs h hsim hn hx hr; exact wp_skip (hn s n ρ A (fun _ _ => rfl) hs h tm w lim X hsim)
  | label l => intro lv n s kn kx kr A ρ tm w lim X Q hs h hsim hn hx hr; exact wp_label (hn s n ρ A (fun _ _ => rfl) hs h tm w lim X hsim)
  | exit id => intro lv n s kn kx kr A ρ tm w lim X Q hs h hsim hn hx hr; exact wp_exit (hx id s n ρ A (fun _ _ => rfl) hs h tm w lim X hsim)
  | ret => intro lv n s kn kx kr A ρ tm w lim X Q hs h hsim hn hx hr; exact wp_ret (hr s n ρ A (fun _ _ => rfl) hs h tm w lim X hsim)
  | seq a b iha ihb =>
    intro lv n s kn kx kr A ρ tm w lim X Q hs h hsim hn hx hr
    refine wp_seq (iha lv n s _ kx kr A ρ tm w lim X _ hs h hsim ?_ hx hr)
    intro s' n' ρ' A' hA hs' h' tm' w' lim' X' hsim'
    exact ihb lv n' s' kn kx kr A' ρ' tm' w' lim' X' Q hs' h' hsim' (fun s2 n2 ρ2 A2 hA2 => hn s2 n2 ρ2 A2 fun i hi => (hA2 i hi).trans (hA i hi))
      (fun id s2 n2 ρ2 A2 hA2 => hx id s2 n2 ρ2 A2 fun i hi => (hA2 i hi).trans (hA i hi)) (fun s2 n2 ρ2 A2 hA2 => hr s2 n2 ρ2 A2 fun i hi => (hA2 i hi).trans (hA i hi))
  | cond x a b iha ihb =>
    intro lv n s kn kx kr A ρ tm w lim X Q hs h hsim hn hx hr
    simp only [ev] at h
    split at h
    · rename_i t ht
      have hxt : x = .tmp t := by cases x <;> simp [slotOf] at ht; rw [ht]
      subst hxt
      have heval : ∀ v : BE, gE E s t = .c (.bool v) → Act.eval ⟨tm, []⟩ (.tmp t) = .bool (v.den ρ) := by
        intro v hv
        have hrel := hsim.rel t
        have : sden E s ρ t = .val (.bool (v.den ρ)) := by simp only [sden, hv, SV.den, SC.den]
        rw [this] at hrel
        exact rep_val hrel
      split at h
      · rename_i v hv
        have he := heval _ hv
        simp only [BE.den] at he
        split at h
        · rename_i hvt
          subst hvt
          exact wp_cond_true he (iha lv n s kn kx kr A ρ tm w lim X Q hs h hsim hn hx hr)
        · rename_i hvt
          have : v = false := by simpa using hvt
          subst this
          exact wp_cond_false he (ihb lv n s kn kx kr A ρ tm w lim X Q hs h hsim hn hx hr)
      · rename_i v _ hv
        refine wp_cond_split (heval v hv) (fun hv' => ?_) fun hv' => ?_
        · obtain ⟨hlt, hsame⟩ := sden_refine hnt hv hv'
          exact iha lv n _ kn kx kr A ρ tm w lim X Q (stBd_set (x := .c (.bool (.lit true))) hnt hlt hs trivial) (h.1 hv') (by rw [hsame]; exact hsim) hn hx hr
        · obtain ⟨hlt, hsame⟩ := sden_refine hnt hv hv'
          exact ihb lv n _ kn kx kr A ρ tm w lim X Q (stBd_set (x := .c (.bool (.lit false))) hnt hlt hs trivial) (h.2 hv') (by rw [hsame]; exact hsim) hn hx hr
      · exact h.elim
    · exact h.elim
  | block id body ih =>
    intro lv n s kn kx kr A ρ tm w lim X Q hs h hsim hn hx hr
    refine wp_block (ih lv n s kn _ kr A ρ tm w lim X _ hs h hsim hn ?_ hr)
    intro id' s' n' ρ' A' hA hs' h' tm' w' lim' X' hsim'
    unfold Exit.inBlock
    by_cases hid : id' = id
    · rw [if_pos hid] at h'
      simp only [hid, if_true]
      exact hn s' n' ρ' A' hA hs' h' tm' w' lim' X' hsim'
    · rw [if_neg hid] at h'
      simp only [hid, if_false]
      exact hx id' s' n' ρ' A' hA hs' h' tm' w' lim' X' hsim'
  | scope body ih =>
    intro lv n s kn kx kr A ρ tm w lim X Q hs h hsim hn hx hr
    exact wp_scope_straight (ih lv n s kn kx kr A ρ tm w lim X _ hs h hsim hn hx hr)
  | loop body ih =>
    intro lv n s kn kx kr A ρ tm w lim X Q hs h hsim hn hx hr
    simp only [ev] at h
    split at h
    case isFalse => exact h.elim
    rename_i hkill
    obtain ⟨I, m, h0, hround⟩ := h
    obtain ⟨k1, k2⟩ := killOk_spec hkill
    have hlow : ∀ d ∈ E.keep (firstRegion body), d < E.nt := fun d hd => (k2 d hd).1
    have key : ∀ (k : Nat) (vs : List V) (tm : Array Value) (w : World) (lim : Nat → Nat) (X : Nat → Nat → Option Nat), m vs < k → vs.length = (headOf (E.keep (firstRegion body)) (gE E s) n).2.1.length → I vs →
        Sim c (sden E (applyU (headOf (E.keep (firstRegion body)) (gE E s) n).1 (.leaf .dead)) (bind ρ n vs)) tm w lim X → Code.rounds P body Q k ⟨tm, []⟩ w := by
      intro k
      induction k with
      | zero => intro vs tm w lim X hlt; omega
      | succ k ihk =>
        intro vs tm w lim X hlt hlen hI hsim
        rw [rounds_succ]
        obtain ⟨b1, b2⟩ := headOf_bd (E.keep (firstRegion body)) n fun d hd => (k2 d hd).2.2
        have hbd : stBd E (applyU (headOf (E.keep (firstRegion body)) (gE E s) n).1 (.leaf .dead)) (headOf (E.keep (firstRegion body)) (gE E s) n).2.2 := by
          refine stBd_applyU hnt _ _ ?_ (fun d => ?_) b2
          · unfold usLow
            rw [List.all_eq_true]
            intro u hu
            have hmem : u.1 ∈ E.keep (firstRegion body) := by
              have h2 := (headOf_den (ρ := bind ρ n ((headOf (E.keep (firstRegion body)) (gE E s) n).2.1.map (VE.den ρ))) (ρ' := ρ) (g := gE E s) (g' := gE E s) (E.keep (firstRegion body)) n n (fun d hd => (k2 d hd).2.2) (Fill.bind _ _ _)).1 u hu
              exact h2.1
            have := hlow u.1 hmem
            simpa using this
          · unfold gE
            split <;> trivial
        refine ih (lv + 1) _ _ _ kx kr _ (bind ρ n vs) tm w lim X _ hbd (hround vs hlen hI) hsim ?_ ?_ ?_
        · intro s' n' ρ' A' hA hs' h' tm' w' lim' X' hsim'
          split at h'
          · rename_i hh
            have hAl : A' lv = fun vs' => I vs' ∧ m vs' < m vs := by
              rw [hA lv (Nat.lt_succ_self _)]
              funext vs'
              simp only [updA, if_true]
            have h'' : A' lv ((headOf (E.keep (firstRegion body)) (gE E s') n').2.1.map (VE.den ρ')) := h'
            rw [hAl] at h''
            obtain ⟨hI', hm'⟩ := h''
            have hsame : ∀ d ∈ E.keep (firstRegion body), sameV (gE E s d) (gE E s' d) = true := by
              have := hh.2
              rw [List.all_eq_true] at this
              exact this
            obtain ⟨X2, hs2⟩ := hsim'.keep hh.1 hpin
            have hd := head_den (ρ := bind ρ n ((headOf (E.keep (firstRegion body)) (gE E s') n').2.1.map (VE.den ρ'))) (ρ' := ρ') (n := n) (n' := n') hnt hlow hsame (Fill.bind _ _ _)
            have hl := (headOf_den (ρ := bind ρ n ((headOf (E.keep (firstRegion body)) (gE E s') n').2.1.map (VE.den ρ'))) (ρ' := ρ') (E.keep (firstRegion body)) n n' hsame (Fill.bind _ _ _)).2.2
            exact ihk _ tm' w' lim' X2 (by omega) (by rw [List.length_map]; exact hl.symm) hI' (by rw [hd]; exact hs2)
          · exact h'.elim
        · intro id s' n' ρ' A' hA hs' h' tm' w' lim' X' hsim'
          exact hx id s' n' ρ' A' (fun i hi => by rw [hA i (by omega)]; funext vs'; simp only [updA, Nat.ne_of_lt hi, if_false]) hs' h' tm' w' lim' X' hsim'
        · intro s' n' ρ' A' hA hs' h' tm' w' lim' X' hsim'
          exact hr s' n' ρ' A' (fun i hi => by rw [hA i (by omega)]; funext vs'; simp only [updA, Nat.ne_of_lt hi, if_false]) hs' h' tm' w' lim' X' hsim'
    obtain ⟨X0, hs0⟩ := hsim.keep hkill hpin
    have hd0 := head_den (ρ := bind ρ n ((headOf (E.keep (firstRegion body)) (gE E s) n).2.1.map (VE.den ρ))) (ρ' := ρ) (n := n) (n' := n) hnt hlow (fun d hd => (k2 d hd).2.2) (Fill.bind _ _ _)
    exact wp_loop_rounds _ (key (m ((headOf (E.keep (firstRegion body)) (gE E s) n).2.1.map (VE.den ρ)) + 1) _ tm w lim X0 (Nat.lt_succ_self _) (by rw [List.length_map]) h0 (by rw [hd0]; exact hs0))
  | region id ops draw =>
    intro lv n s kn kx kr A ρ tm w lim X Q hs h hsim hn hx hr
    exact region_sound hm hps hnt hs h hcP hcn hsim fun s' n' ρ' hs' h' => hn s' n' ρ' A (fun _ _ => rfl) hs' h'
  | _ => intro lv n s kn kx kr A ρ tm w lim X Q hs h hsim hn hx hr; exact h.elim

end

end Go.AM
