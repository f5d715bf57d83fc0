/- The evaluator of a function's code is sound. Generic: no program stands in it. -/
import Derived.Test.YtjfhdhplmibnfaaAmPat
import Derived.LoopN
import Derived.Scope
import Derived.Laws.Cover3
namespace Go.AM

theorem key_one : ∀ (hs : List (Nat × HP)) (d : Nat) (h h' : HP), (hs.map (·.1)).Nodup → (d, h) ∈ hs → (d, h') ∈ hs → h = h'
  | [], _, _, _, _, h, _ => by simp at h
  | p :: r, d, h, h', hn, h1, h2 => by
    rw [List.map_cons, List.nodup_cons] at hn
    rcases List.mem_cons.1 h1 with e1 | e1
    · rcases List.mem_cons.1 h2 with e2 | e2
      · rw [← e1] at e2
        exact (Prod.mk.inj e2).2.symm
      · exact (hn.1 (by rw [← e1]; exact List.mem_map.2 ⟨_, e2, rfl⟩)).elim
    · rcases List.mem_cons.1 h2 with e2 | e2
      · exact (hn.1 (by rw [← e2]; exact List.mem_map.2 ⟨_, e1, rfl⟩)).elim
      · exact key_one r d h h' hn.2 e1 e2

theorem lastV_mem : ∀ (us : List (Nat × AV)) (d : Nat) (x : AV), lastV us d = some x → (d, x) ∈ us
  | [], d, x, h => by simp [lastV] at h
  | (e, y) :: us, d, x, h => by
    simp only [lastV] at h
    cases hl : lastV us d with
    | some z =>
      rw [hl] at h
      simp only [Option.some.injEq] at h
      subst h
      exact List.mem_cons_of_mem _ (lastV_mem us d _ hl)
    | none =>
      rw [hl] at h
      simp only at h
      split at h
      · rename_i hd
        simp only [Option.some.injEq] at h
        subst h
        subst hd
        exact List.mem_cons_self
      · cases h

theorem headOk_spec {E : Env} {hs : List (Nat × HP)} (h : headOk E hs = true) : (hs.map (·.1)).Nodup ∧ (∀ p ∈ hs, p.1 < E.nt) ∧ (∀ d d' h, (d, h) ∈ hs → (∃ o, h = HP.ptr d' o) ∨ h = HP.mref d' → ∃ l : HP, l.isBox = true ∧ (d', l) ∈ hs) ∧ ∀ d ∈ E.pins, ∃ l : HP, l.isBox = true ∧ (d, l) ∈ hs := by
  have hbox : ∀ (d : Nat), (hs.any fun q => decide (q.1 = d) && q.2.isBox) = true → ∃ l : HP, l.isBox = true ∧ (d, l) ∈ hs := by
    intro d hd
    rw [List.any_eq_true] at hd
    obtain ⟨q, hq, hd⟩ := hd
    obtain ⟨q1, q2⟩ := q
    simp only [Bool.and_eq_true, decide_eq_true_eq] at hd
    obtain ⟨rfl, hd⟩ := hd
    exact ⟨_, hd, hq⟩
  simp only [headOk, Bool.and_eq_true] at h
  obtain ⟨⟨h1, h2⟩, h3⟩ := h
  rw [List.all_eq_true] at h2 h3
  refine ⟨nodupB_ok _ h1, fun p hp => ?_, fun d d' h hm hh => ?_, fun d hd => hbox d (h3 d hd)⟩
  · have := h2 p hp
    simp only [Bool.and_eq_true, decide_eq_true_eq] at this
    exact this.1
  · have := h2 _ hm
    simp only [Bool.and_eq_true] at this
    rcases hh with ⟨o, rfl⟩ | rfl
    · exact hbox d' this.2
    · exact hbox d' this.2

theorem head_at {P : Program} {E : Env} (hnt : E.nt ≤ 1024) {hs : List (Nat × HP)} (hok : headOk E hs = true) {s : Tr} {ρ ρ0 : Nat → V} {ves : List VE} (hv : headVals P (gE E s) hs = some ves) :
    (∀ d, d ∉ hs.map (·.1) → sden E (applyU (headUps hs 0).1 (.leaf .dead)) (bind ρ0 0 (ves.map (VE.den ρ))) d = .dead) ∧
    ∀ d h, (d, h) ∈ hs → ∃ m, sden E (applyU (headUps hs 0).1 (.leaf .dead)) (bind ρ0 0 (ves.map (VE.den ρ))) d = hpDen h (ves.map (VE.den ρ)) m ∧
      (RefW h (sden E s ρ d) ∨ SlotW P (sden E s ρ d) (hpDen h (ves.map (VE.den ρ)) m)) := by
  obtain ⟨k1, k2, k3, k4⟩ := headOk_spec hok
  obtain ⟨h1, h2, h3⟩ := headVals_at (P := P) (g := gE E s) (ρ := ρ) hs 0 ves [] hv rfl
  have hl : usLow E (headUps hs 0).1 := by
    unfold usLow
    rw [List.all_eq_true]
    intro u hu
    have hm : u.1 ∈ hs.map (·.1) := by rw [← h2]; exact List.mem_map.2 ⟨u, hu, rfl⟩
    obtain ⟨p, hp, he⟩ := List.mem_map.1 hm
    have := k2 p hp
    rw [he] at this
    simpa using this
  have hdead : ∀ d, sden E (.leaf .dead) (bind ρ0 0 (ves.map (VE.den ρ))) d = .dead := by
    intro d
    simp only [sden, gE]
    split <;> rfl
  have hfst : ((headUps hs 0).1.map fun u => (u.1, u.2.den (bind ρ0 0 (ves.map (VE.den ρ))))).map (·.1) = hs.map (·.1) := by rw [List.map_map]; exact h2
  rw [sden_applyU hnt _ _ _ hl]
  refine ⟨fun d hd => ?_, fun d h hm => ?_⟩
  · rw [updL_last, lastV_none _ d (by rw [hfst]; exact hd), hdead]
    rfl
  · obtain ⟨x, hx⟩ := lastV_some ((headUps hs 0).1.map fun u => (u.1, u.2.den (bind ρ0 0 (ves.map (VE.den ρ))))) d (by rw [hfst]; exact List.mem_map.2 ⟨_, hm, rfl⟩)
    obtain ⟨u, hu, he⟩ := List.mem_map.1 (lastV_mem _ _ _ hx)
    simp only [Prod.mk.injEq] at he
    obtain ⟨rfl, rfl⟩ := he
    obtain ⟨h', g1, m, g2, g3, g4, g5⟩ := h3 u hu
    have : h' = h := key_one hs u.1 h' h k1 g1 hm
    subst this
    have hden : u.2.den (bind ρ0 0 (ves.map (VE.den ρ))) = hpDen h' (ves.map (VE.den ρ)) m := by
      rw [g2]
      refine hpAt_sh g4 fun j hj => ?_
      have hlt : m + j < (ves.map (VE.den ρ)).length := by rw [List.length_map]; omega
      have := Fill.bind ρ0 0 (ves.map (VE.den ρ)) (m + j) _ (List.getElem?_eq_getElem hlt)
      rw [Nat.zero_add] at this
      rw [this, vAt, List.getElem?_eq_getElem hlt]
      rfl
    refine ⟨m, ?_, ?_⟩
    · rw [updL_last, hx, ← hden]
      rfl
    · have := g5 []
      simp only [List.nil_append, List.append_nil] at this
      exact this

theorem head_sim {P : Program} {E : Env} (hnt : E.nt ≤ 1024) {c : Ctx} (hcP : c.P = P) (hcn : c.nt = E.nt) (hpin : ∀ d v, c.pin d = some v → d ∈ E.pins) {hs : List (Nat × HP)} (hok : headOk E hs = true) {s : Tr} {ρ : Nat → V} (ρ0 : Nat → V) {ves : List VE}
    (hv : headVals P (gE E s) hs = some ves) {tm : Array Value} {w : World} {lim : Nat → Nat} {X : Nat → Nat → Option Nat} (hsim : Sim c (sden E s ρ) tm w lim X) :
    ∃ X', Sim c (sden E (applyU (headUps hs 0).1 (.leaf .dead)) (bind ρ0 0 (ves.map (VE.den ρ)))) tm w lim X' := by
  obtain ⟨k1, k2, k3, k4⟩ := headOk_spec hok
  obtain ⟨h1, h2⟩ := head_at (P := P) hnt hok (ρ0 := ρ0) (ρ := ρ) hv
  have hbox : ∀ d (l : HP), l.isBox = true → (d, l) ∈ hs → ∃ cs, sden E (applyU (headUps hs 0).1 (.leaf .dead)) (bind ρ0 0 (ves.map (VE.den ρ))) d = .box cs := by
    intro d l hl hm
    obtain ⟨m, g1, _⟩ := h2 d _ hm
    cases l <;> simp [HP.isBox] at hl <;> exact ⟨_, g1⟩
  refine hsim.head (fun d => ?_) (fun d hd => ?_) fun d v hp => ?_
  · by_cases hm : d ∈ hs.map (·.1)
    · obtain ⟨p, hp, rfl⟩ := List.mem_map.1 hm
      obtain ⟨m, g1, g2⟩ := h2 p.1 p.2 hp
      unfold HeadW
      rw [g1, hcP]
      rcases g2 with (⟨d', o, g2, g3⟩ | ⟨d', g2, g3⟩) | g2
      · obtain ⟨l, hl, hm⟩ := k3 p.1 d' p.2 hp (.inl ⟨o, g2⟩)
        exact .inr (.inl ⟨d', o, g3, by rw [g2]; rfl, hbox d' l hl hm⟩)
      · obtain ⟨l, hl, hm⟩ := k3 p.1 d' p.2 hp (.inr g2)
        exact .inr (.inr ⟨d', g3, by rw [g2]; rfl, hbox d' l hl hm⟩)
      · exact .inl g2
    · unfold HeadW
      rw [h1 d hm]
      exact .inl .dead
  · refine h1 d fun hm => ?_
    obtain ⟨p, hp, rfl⟩ := List.mem_map.1 hm
    have := k2 p hp
    omega
  · obtain ⟨l, hl, hm⟩ := k4 d (hpin d v hp)
    exact hbox d l hl hm

theorem nilTest_spec {ops : Array Oper} {x a d : Nat} {T : TypeId} {neg : Bool} (h : nilTest ops = some (x, a, d, T, neg)) :
    ∃ o p U, ops.toList = [o, p] ∧ o.guard = none ∧ p.guard = none ∧ o.op = .move (.tmp x) ∧ o.dst = some a ∧ p.op = .binOp (if neg = true then .neq else .eql) T (.tmp a) (.const (.slice none 0 0)) U ∧ p.dst = some d := by
  unfold nilTest at h
  split at h
  · rename_i o p hops
    split at h
    · rename_i hg
      simp only [Option.isNone_iff_eq_none] at hg
      split at h
      · rename_i h1 h2 h3 h4
        split at h
        · rename_i hb
          subst hb
          simp only [Option.some.injEq, Prod.mk.injEq] at h
          obtain ⟨rfl, rfl, rfl, rfl, rfl⟩ := h
          exact ⟨o, p, _, hops, hg.1, hg.2, h1, h2, by simpa using h3, h4⟩
        · cases h
      · rename_i h1 h2 h3 h4
        split at h
        · rename_i hb
          subst hb
          simp only [Option.some.injEq, Prod.mk.injEq] at h
          obtain ⟨rfl, rfl, rfl, rfl, rfl⟩ := h
          exact ⟨o, p, _, hops, hg.1, hg.2, h1, h2, by simpa using h3, h4⟩
        · cases h
      · cases h
    · cases h
  · cases h

/-- A slice's value, and that it is empty where it is nil. -/
theorem slice_form {P : Program} {w : World} {lim : Nat → Nat} {X : Nat → Nat → Option Nat} {σ : Nat → AV} {d : Nat} {x : SV} {l : LE} {ρ : Nat → V} {v : Value} (hx : nilLst x = some l) (h : SlotR P w lim X σ d (x.den ρ) v) :
    ∃ a k cap, v = .slice a k cap ∧ (a.isNone = true → l.den ρ = []) := by
  have hrep : ∀ f s, Rep w lim (.slice f s (l.den ρ)) v → ∃ a k cap, v = .slice a k cap ∧ (a.isNone = true → l.den ρ = []) := by
    intro f s hr
    have key : ∀ y, Rep w lim y v → y = .slice f s (l.den ρ) → ∃ a k cap, v = .slice a k cap ∧ (a.isNone = true → l.den ρ = []) := by
      intro y hy hye
      cases hy with
      | sliceN => injection hye with _ _ h3; exact ⟨none, 0, 0, rfl, fun _ => h3.symm⟩
      | sliceE _ => injection hye with _ _ h3; exact ⟨_, _, _, rfl, fun _ => h3.symm⟩
      | sliceC _ _ _ _ _ _ _ _ => exact ⟨_, _, _, rfl, fun h => by cases h⟩
      | val _ => cases hye
      | agg _ _ _ => cases hye
    exact key _ hr rfl
  unfold nilLst at hx
  split at hx
  · simp only [Option.some.injEq] at hx
    subst hx
    exact hrep _ _ h
  · simp only [Option.some.injEq] at hx
    subst hx
    exact hrep _ _ (OwnR.rep (show OwnR P w lim _ _ v (X d 0) from h) false rfl)
  · cases hx

section
variable {P : Program} {E : Env} {R : AV → List AV → Prop}

def Below1 (lv : Nat) (A A' : Nat → List V → Prop) : Prop := ∀ i, i < lv → A' i = A i

theorem ev_sound (hm : P.follows .mixedOrders = true) (hps : PlainSound P E.plain) (hnt : E.nt ≤ 1024) {c : Ctx} (hcP : c.P = P) (hcn : c.nt = E.nt) (hpin : ∀ d v, c.pin d = some v → d ∈ E.pins) :
    ∀ (code : Code) (lv n : Nat) (s : Tr) (kn : Tr → Nat → STree) (kx : Nat → Tr → Nat → STree) (kr : Tr → Nat → STree) (A : Nat → List V → Prop) (ρ : Nat → V) (tm : Array Value) (w : World) (lim : Nat → Nat) (X : Nat → Nat → Option Nat)
      (Q : Exit → Act → World → Prop), stBd E s n → (ev P E lv code s n kn kx kr).wp P R A ρ → Sim c (sden E s ρ) tm w lim X →
      (∀ s' n' ρ' A', Below1 lv A A' → stBd E s' n' → (kn s' n').wp P R A' ρ' → ∀ tm' w' lim' X', Sim c (sden E s' ρ') tm' w' lim' X' → Q .normal ⟨tm', []⟩ w') →
      (∀ id s' n' ρ' A', Below1 lv A A' → stBd E s' n' → (kx id s' n').wp P R A' ρ' → ∀ tm' w' lim' X', Sim c (sden E s' ρ') tm' w' lim' X' → Q (.exit id) ⟨tm', []⟩ w') →
      (∀ s' n' ρ' A', Below1 lv A A' → stBd E s' n' → (kr s' n').wp P R A' ρ' → ∀ tm' w' lim' X', Sim c (sden E s' ρ') tm' w' lim' X' → Q .ret ⟨tm', []⟩ w') →
      code.wp P Q ⟨tm, []⟩ w := by
  intro code
  induction code with
  | skip => intro lv n s kn kx kr A ρ tm w lim X Q hs h hsim hn hx hr; exact wp_skip (hn s n ρ A (fun _ _ => rfl) hs h tm w lim X hsim)
  | label l => intro lv n s kn kx kr A ρ tm w lim X Q hs h hsim hn hx hr; exact wp_label (hn s n ρ A (fun _ _ => rfl) hs h tm w lim X hsim)
  | exit id => intro lv n s kn kx kr A ρ tm w lim X Q hs h hsim hn hx hr; exact wp_exit (hx id s n ρ A (fun _ _ => rfl) hs h tm w lim X hsim)
  | ret => intro lv n s kn kx kr A ρ tm w lim X Q hs h hsim hn hx hr; exact wp_ret (hr s n ρ A (fun _ _ => rfl) hs h tm w lim X hsim)
  | seq a b iha ihb =>
    intro lv n s kn kx kr A ρ tm w lim X Q hs h hsim hn hx hr
    refine wp_seq (iha lv n s _ kx kr A ρ tm w lim X _ hs h hsim ?_ hx hr)
    intro s' n' ρ' A' hA hs' h' tm' w' lim' X' hsim'
    exact ihb lv n' s' kn kx kr A' ρ' tm' w' lim' X' Q hs' h' hsim' (fun s2 n2 ρ2 A2 hA2 => hn s2 n2 ρ2 A2 fun i hi => (hA2 i hi).trans (hA i hi))
      (fun id s2 n2 ρ2 A2 hA2 => hx id s2 n2 ρ2 A2 fun i hi => (hA2 i hi).trans (hA i hi)) (fun s2 n2 ρ2 A2 hA2 => hr s2 n2 ρ2 A2 fun i hi => (hA2 i hi).trans (hA i hi))
  | cond x a b iha ihb =>
    intro lv n s kn kx kr A ρ tm w lim X Q hs h hsim hn hx hr
    simp only [ev] at h
    split at h
    · rename_i t ht
      have hxt : x = .tmp t := by cases x <;> simp [slotOf] at ht; rw [ht]
      subst hxt
      have heval : ∀ v : BE, gE E s t = .c (.bool v) → Act.eval ⟨tm, []⟩ (.tmp t) = .bool (v.den ρ) := by
        intro v hv
        have hrel := hsim.rel t
        have : sden E s ρ t = .val (.bool (v.den ρ)) := by simp only [sden, hv, SV.den, SC.den]
        rw [this] at hrel
        exact rep_val hrel
      split at h
      · rename_i v hv
        have he := heval _ hv
        simp only [BE.den] at he
        split at h
        · rename_i hvt
          subst hvt
          exact wp_cond_true he (iha lv n s kn kx kr A ρ tm w lim X Q hs h hsim hn hx hr)
        · rename_i hvt
          have : v = false := by simpa using hvt
          subst this
          exact wp_cond_false he (ihb lv n s kn kx kr A ρ tm w lim X Q hs h hsim hn hx hr)
      · rename_i v _ hv
        refine wp_cond_split (heval v hv) (fun hv' => ?_) fun hv' => ?_
        · obtain ⟨hlt, hsame⟩ := sden_refine hnt hv hv'
          exact iha lv n _ kn kx kr A ρ tm w lim X Q (stBd_set (x := .c (.bool (.lit true))) hnt hlt hs trivial) (h.1 hv') (by rw [hsame]; exact hsim) hn hx hr
        · obtain ⟨hlt, hsame⟩ := sden_refine hnt hv hv'
          exact ihb lv n _ kn kx kr A ρ tm w lim X Q (stBd_set (x := .c (.bool (.lit false))) hnt hlt hs trivial) (h.2 hv') (by rw [hsame]; exact hsim) hn hx hr
      · exact h.elim
    · exact h.elim
  | block id body ih =>
    intro lv n s kn kx kr A ρ tm w lim X Q hs h hsim hn hx hr
    refine wp_block (ih lv n s kn _ kr A ρ tm w lim X _ hs h hsim hn ?_ hr)
    intro id' s' n' ρ' A' hA hs' h' tm' w' lim' X' hsim'
    unfold Exit.inBlock
    by_cases hid : id' = id
    · rw [if_pos hid] at h'
      simp only [hid, if_true]
      exact hn s' n' ρ' A' hA hs' h' tm' w' lim' X' hsim'
    · rw [if_neg hid] at h'
      simp only [hid, if_false]
      exact hx id' s' n' ρ' A' hA hs' h' tm' w' lim' X' hsim'
  | scope body ih =>
    intro lv n s kn kx kr A ρ tm w lim X Q hs h hsim hn hx hr
    exact wp_scope_straight (ih lv n s kn kx kr A ρ tm w lim X _ hs h hsim hn hx hr)
  | loop body ih =>
    intro lv n s kn kx kr A ρ tm w lim X Q hs h hsim hn hx hr
    simp only [ev] at h
    split at h
    case isFalse => exact h.elim
    rename_i hok
    split at h
    case h_2 => exact h.elim
    rename_i init hinit
    obtain ⟨I, m, h0, hround⟩ := h
    have hlen : ∀ {s' : Tr} {ves : List VE}, headVals P (gE E s') (E.keep (firstRegion body)) = some ves → (headUps (E.keep (firstRegion body)) 0).2 = ves.length := by
      intro s' ves hv
      have := (headVals_at (P := P) (g := gE E s') (ρ := ρ) _ 0 ves [] hv rfl).1
      omega
    have key : ∀ (k : Nat) (vs : List V) (tm : Array Value) (w : World) (lim : Nat → Nat) (X : Nat → Nat → Option Nat), m vs < k → vs.length = init.length → I vs →
        Sim c (sden E (applyU (headUps (E.keep (firstRegion body)) 0).1 (.leaf .dead)) (bind zeroE 0 vs)) tm w lim X → Code.rounds P body Q k ⟨tm, []⟩ w := by
      intro k
      induction k with
      | zero => intro vs tm w lim X hlt; omega
      | succ k ihk =>
        intro vs tm w lim X hlt hlv hI hsim
        rw [rounds_succ]
        obtain ⟨k1, k2, k3, k4⟩ := headOk_spec hok
        have hbd : stBd E (applyU (headUps (E.keep (firstRegion body)) 0).1 (.leaf .dead)) (headUps (E.keep (firstRegion body)) 0).2 := by
          refine stBd_applyU hnt _ _ ?_ (fun d => ?_) (headUps_bd _ 0).2
          · unfold usLow
            rw [List.all_eq_true]
            intro u hu
            have h2 := (headVals_at (P := P) (g := gE E s) (ρ := ρ) _ 0 init [] hinit rfl).2.1
            have hm : u.1 ∈ (E.keep (firstRegion body)).map (·.1) := by rw [← h2]; exact List.mem_map.2 ⟨u, hu, rfl⟩
            obtain ⟨p, hp, he⟩ := List.mem_map.1 hm
            have := k2 p hp
            rw [he] at this
            simpa using this
          · unfold gE
            split <;> trivial
        refine ih (lv + 1) _ _ _ kx kr _ (bind zeroE 0 vs) tm w lim X _ hbd (hround vs hlv hI) hsim ?_ ?_ ?_
        · intro s' n' ρ' A' hA hs' h' tm' w' lim' X' hsim'
          split at h'
          · rename_i vals hvals
            have hAl : A' lv = fun vs' => I vs' ∧ m vs' < m vs := by
              rw [hA lv (Nat.lt_succ_self _)]
              funext vs'
              simp only [updA, if_true]
            have h'' : A' lv (vals.map (VE.den ρ')) := h'
            rw [hAl] at h''
            obtain ⟨hI', hm'⟩ := h''
            obtain ⟨X2, hs2⟩ := head_sim hnt hcP hcn hpin hok zeroE hvals hsim'
            exact ihk _ tm' w' lim' X2 (by omega) (by rw [List.length_map, ← hlen hvals, hlen hinit]) hI' hs2
          · exact h'.elim
        · intro id s' n' ρ' A' hA hs' h' tm' w' lim' X' hsim'
          exact hx id s' n' ρ' A' (fun i hi => by rw [hA i (by omega)]; funext vs'; simp only [updA, Nat.ne_of_lt hi, if_false]) hs' h' tm' w' lim' X' hsim'
        · intro s' n' ρ' A' hA hs' h' tm' w' lim' X' hsim'
          exact hr s' n' ρ' A' (fun i hi => by rw [hA i (by omega)]; funext vs'; simp only [updA, Nat.ne_of_lt hi, if_false]) hs' h' tm' w' lim' X' hsim'
    obtain ⟨X0, hs0⟩ := head_sim hnt hcP hcn hpin hok zeroE hinit hsim
    exact wp_loop_rounds _ (key (m (init.map (VE.den ρ)) + 1) _ tm w lim X0 (Nat.lt_succ_self _) (by rw [List.length_map]) h0 hs0)
  | region id ops draw =>
    intro lv n s kn kx kr A ρ tm w lim X Q hs h hsim hn hx hr
    simp only [ev] at h
    split at h
    · rename_i x a d T neg htest
      split at h
      case h_2 => exact h.elim
      rename_i e l hT hl
      split at h
      case isFalse => exact h.elim
      rename_i hh
      obtain ⟨ha, hd, hma, hmd, had, hxa⟩ := hh
      obtain ⟨o, p, U, hops, hgo, hgp, h1, h2, h3, h4⟩ := nilTest_spec htest
      obtain ⟨va, k, cap, hv, hnil⟩ := slice_form hl (hsim.rel x)
      have hsz : ops.size = 2 := by rw [← Array.length_toList, hops]; rfl
      have ho0 : ops[0]? = some o := by rw [← Array.getElem?_toList, hops]; rfl
      have ho1 : ops[1]? = some p := by rw [← Array.getElem?_toList, hops]; rfl
      refine wp_region ?_
      rw [hsz, show List.range 2 = [0, 1] from rfl, wpOps_cons]
      unfold wpOp
      simp only [ho0, Region.wanted, hgo]
      simp only [if_true]
      refine .inl (wp_of_run (v := .slice va k cap) (w' := w) ?_ ?_)
      · have hev : Act.eval ⟨tm, []⟩ (.tmp x) = tm.getD x undef := rfl
        simp only [execOp, h1, hev, hv, Sem.run_pure]
      · rw [wpOps_cons]
        unfold wpOp
        simp only [ho1, Region.wanted, hgp]
        simp only [if_true]
        have hea : Act.eval (Act.put ⟨tm, []⟩ o.dst (.slice va k cap)) (.tmp a) = .slice va k cap := by
          rw [h2]
          exact getD_set tm a _ (by rw [hsim.size, hcn]; exact ha)
        refine .inl (wp_of_run (v := .bool (if neg = true then !va.isNone else va.isNone)) (w' := w) ?_ ?_)
        · have hec : Act.eval (Act.put ⟨tm, []⟩ o.dst (.slice va k cap)) (.const (.slice none 0 0)) = .slice none 0 0 := rfl
          have heq := run_equal_slice_nil (P := P) w T _ va k cap hT
          cases neg
          · simp [execOp, h3, hea, hec, eqGuard, binOp, heq]
          · simp [execOp, h3, hea, hec, eqGuard, binOp, heq]
        · have hb := h va.isNone hnil
          have hna : ∀ cs, sden E s ρ a ≠ .box cs := mayPutS_old (mayPut_den (a := gE E s a) (b := .dead) ρ hma)
          have hnd : ∀ cs, sden E s ρ d ≠ .box cs := mayPutS_old (mayPut_den (a := gE E s d) (b := .dead) ρ hmd)
          have s1 := hsim.put (k := 0) (x := .dead) (v := .slice va k cap) (by rw [hcn]; exact ha) hna rfl trivial
          have s2 := s1.put (d := d) (k := 0) (x := .val (.bool (if neg = true then !va.isNone else va.isNone))) (v := .bool (if neg = true then !va.isNone else va.isNone)) (by rw [hcn]; exact hd) (fun cs => by rw [upd_other _ _ (Ne.symm had)]; exact hnd cs) rfl (Rep.val rfl)
          have hbv : (BE.den (bind ρ n [.b va.isNone]) (if neg = true then .not (.var n) else .var n)) = (if neg = true then !va.isNone else va.isNone) := by
            have hvar : bind ρ n [.b va.isNone] n = .b va.isNone := by simp [bind]
            cases neg
            · simp only [Bool.false_eq_true, if_false, BE.den, hvar, V.bool]
            · simp only [if_true, BE.den, hvar, V.bool]
          have hσ : sden E ((s.set depth a .dead).set depth d (.c (.bool (if neg = true then .not (.var n) else .var n)))) (bind ρ n [.b va.isNone]) = upd (upd (sden E s ρ) a .dead) d (.val (.bool (if neg = true then !va.isNone else va.isNone))) := by
            rw [sden_set hnt hd, sden_set hnt ha, sden_congr hs (bind_lt ρ n _)]
            simp only [SV.den, SC.den, hbv]
          have hs2 : stBd E ((s.set depth a .dead).set depth d (.c (.bool (if neg = true then .not (.var n) else .var n)))) (n + 1) := by
            refine stBd_set hnt hd (stBd_set hnt ha (stBd_mono hs (Nat.le_succ n)) trivial) ?_
            cases neg
            · exact Nat.lt_succ_self n
            · exact Nat.lt_succ_self n
          rw [h2, h4]
          show Q .normal ⟨(tm.setIfInBounds a (.slice va k cap)).setIfInBounds d (.bool (if neg = true then !va.isNone else va.isNone)), []⟩ w
          exact hn _ _ _ A (fun _ _ => rfl) hs2 hb _ w lim _ (by rw [hσ]; exact s2)
    · exact region_sound hm hps hnt hs h hcP hcn hsim fun s' n' ρ' hs' h' => hn s' n' ρ' A (fun _ _ => rfl) hs' h'
  | _ => intro lv n s kn kx kr A ρ tm w lim X Q hs h hsim hn hx hr; exact h.elim

end

end Go.AM
