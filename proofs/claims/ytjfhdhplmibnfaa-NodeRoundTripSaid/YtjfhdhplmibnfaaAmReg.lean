/- Regions: operations in the order of the text, and in any order. Generic: no program stands in it. -/
import Derived.Test.YtjfhdhplmibnfaaAmSnd3
import Derived.Orders
namespace Go.AM

/-- What one operation asks of the slots, and what it makes of them. -/
structure Stp where
  F : List Nat
  ups : List (Nat × AV)

def StpOk (P : Program) (nt : Nat) (ops : Array Oper) (i : Nat) (pre : Nat → AV) (s : Stp) : Prop :=
  (∀ u ∈ s.ups, u.1 ∈ s.F) ∧
  ∀ (c : Ctx), c.P = P → c.nt = nt → ∀ (σ' : Nat → AV) (tm : Array Value) (w : World) (lim : Nat → Nat) (X : Nat → Nat → Option Nat),
    (∀ d ∈ s.F, σ' d = pre d) → Sim c σ' tm w lim X → ∀ (Q : Exit → Act → World → Prop) (K : Act → World → Prop),
      (∀ tm' w' lim' X', Sim c (updL σ' s.ups) tm' w' lim' X' → K ⟨tm', []⟩ w') → wpOp P ops Q i K ⟨tm, []⟩ w

def Chain (P : Program) (nt : Nat) (ops : Array Oper) : Nat → (Nat → AV) → List Stp → Prop
  | _, _, [] => True
  | i, σ, s :: ss => StpOk P nt ops i σ s ∧ Chain P nt ops (i + 1) (updL σ s.ups) ss

def runS (σ : Nat → AV) : List Stp → (Nat → AV)
  | [] => σ
  | s :: ss => runS (updL σ s.ups) ss

section
variable {P : Program} {nt : Nat} {ops : Array Oper} {Q : Exit → Act → World → Prop} {c : Ctx}

theorem chain_text (hc : c.P = P) (hn : c.nt = nt) : ∀ (ss : List Stp) (i : Nat) (σ : Nat → AV) (tm : Array Value) (w : World) (lim : Nat → Nat) (X : Nat → Nat → Option Nat),
    Chain P nt ops i σ ss → Sim c σ tm w lim X → (∀ tm' w' lim' X', Sim c (runS σ ss) tm' w' lim' X' → Q .normal ⟨tm', []⟩ w') → wpOps P ops Q (List.range' i ss.length) ⟨tm, []⟩ w
  | [], i, σ, tm, w, lim, X, _, hs, hk => by
    show Q .normal ⟨tm, []⟩ w
    exact hk tm w lim X hs
  | s :: ss, i, σ, tm, w, lim, X, h, hs, hk => by
    rw [List.length_cons, List.range'_succ, wpOps_cons]
    exact h.1.2 c hc hn σ tm w lim X (fun _ _ => rfl) hs Q _ fun tm' w' lim' X' hs' => chain_text hc hn ss (i + 1) _ tm' w' lim' X' h.2 hs' hk

/-- The last value that is laid into slot d. -/
def lastV : List (Nat × AV) → Nat → Option AV
  | [], _ => none
  | (e, x) :: us, d => match lastV us d with | some y => some y | none => if d = e then some x else none

theorem updL_last : ∀ (us : List (Nat × AV)) (σ : Nat → AV) (d : Nat), updL σ us d = (lastV us d).getD (σ d)
  | [], σ, d => rfl
  | (e, x) :: us, σ, d => by
    simp only [updL, lastV, updL_last us]
    cases lastV us d with
    | some y => rfl
    | none =>
      by_cases h : d = e
      · subst h; simp [upd]
      · simp [upd, h]

theorem lastV_none : ∀ (us : List (Nat × AV)) (d : Nat), d ∉ us.map (·.1) → lastV us d = none
  | [], d, _ => rfl
  | (e, x) :: us, d, h => by
    simp only [List.map_cons, List.mem_cons, not_or] at h
    simp only [lastV, lastV_none us d h.2, if_neg h.1]

theorem lastV_some : ∀ (us : List (Nat × AV)) (d : Nat), d ∈ us.map (·.1) → ∃ x, lastV us d = some x
  | [], d, h => by simp at h
  | (e, x) :: us, d, h => by
    simp only [lastV]
    cases hl : lastV us d with
    | some y => exact ⟨y, rfl⟩
    | none =>
      simp only [List.map_cons, List.mem_cons] at h
      rcases h with h | h
      · subst h; exact ⟨x, by simp⟩
      · obtain ⟨y, hy⟩ := lastV_some us d h; rw [hl] at hy; cases hy

/-- What the operations of S among these have made of the slots. -/
def comp (S : Nat → Bool) : Nat → (Nat → AV) → List Stp → (Nat → AV)
  | _, σ, [] => σ
  | i, σ, s :: ss => comp S (i + 1) (if S i = true then updL σ s.ups else σ) ss

theorem comp_all (S : Nat → Bool) : ∀ (ss : List Stp) (i : Nat) (σ : Nat → AV), (∀ j, i ≤ j → j < i + ss.length → S j = true) → comp S i σ ss = runS σ ss
  | [], _, _, _ => rfl
  | s :: ss, i, σ, h => by
    simp only [comp, runS, h i (Nat.le_refl _) (by simp), if_true]
    exact comp_all S ss (i + 1) _ fun j h1 h2 => h j (by omega) (by simp only [List.length_cons]; omega)

theorem comp_none (S : Nat → Bool) : ∀ (ss : List Stp) (i : Nat) (σ : Nat → AV), (∀ j, i ≤ j → j < i + ss.length → S j = false) → comp S i σ ss = σ
  | [], _, _, _ => rfl
  | s :: ss, i, σ, h => by
    simp only [comp, h i (Nat.le_refl _) (by simp), Bool.false_eq_true, if_false]
    exact comp_none S ss (i + 1) _ fun j h1 h2 => h j (by omega) (by simp only [List.length_cons]; omega)

/-- Slot d is the same where the two sets agree on what writes it, and the starts agree. -/
theorem comp_congr {d : Nat} (S T : Nat → Bool) : ∀ (ss : List Stp) (i : Nat) (σ τ : Nat → AV), σ d = τ d → (∀ (j : Nat) (s : Stp), ss[j]? = some s → d ∈ s.ups.map (·.1) → S (i + j) = T (i + j)) → comp S i σ ss d = comp T i τ ss d
  | [], _, _, _, h, _ => h
  | s :: ss, i, σ, τ, h, hS => by
    simp only [comp]
    refine comp_congr S T ss (i + 1) _ _ ?_ fun j s' hs' hd => by
      have := hS (j + 1) s' (by simpa using hs') hd
      rw [show i + 1 + j = i + (j + 1) by omega]
      exact this
    by_cases hd : d ∈ s.ups.map (·.1)
    · have h0 := hS 0 s rfl hd
      rw [Nat.add_zero] at h0
      rw [h0]
      split
      · rw [updL_last, updL_last, h]
      · exact h
    · have hl := lastV_none s.ups d hd
      split <;> split <;> first
        | (rw [updL_last, updL_last, hl]; exact h)
        | (rw [updL_last, hl]; exact h)
        | exact h

theorem runS_take : ∀ (ss : List Stp) (i : Nat) (σ : Nat → AV) (m : Nat), comp (fun j => decide (j < i + m)) i σ ss = runS σ (ss.take m)
  | [], i, σ, m => by simp [comp, runS]
  | s :: ss, i, σ, 0 => by
    rw [List.take_zero]
    exact comp_none _ (s :: ss) i σ fun j h1 _ => by simp; omega
  | s :: ss, i, σ, m + 1 => by
    simp only [comp, List.take_succ_cons, runS, decide_eq_true_eq]
    rw [if_pos (by omega), ← runS_take ss (i + 1)]
    congr 1
    funext j
    rw [show i + 1 + m = i + (m + 1) by omega]

theorem chain_at : ∀ (ss : List Stp) (i : Nat) (σ : Nat → AV), Chain P nt ops i σ ss → ∀ (j : Nat) (s : Stp), ss[j]? = some s → StpOk P nt ops (i + j) (runS σ (ss.take j)) s
  | [], _, _, _, j, s, h => by simp at h
  | s0 :: ss, i, σ, hc, 0, s, h => by
    simp only [List.getElem?_cons_zero, Option.some.injEq] at h
    subst h
    exact hc.1
  | s0 :: ss, i, σ, hc, j + 1, s, h => by
    have := chain_at ss (i + 1) _ hc.2 j s (by simpa using h)
    rw [show i + (j + 1) = i + 1 + j by omega]
    exact this

/-- Any order: what has not its place by the edges touches nothing in common. -/
theorem chain_any (hc : c.P = P) (hn : c.nt = nt) {ss : List Stp} {σ : Nat → AV} (hch : Chain P nt ops 0 σ ss) (hlen : ss.length = ops.size)
    (hlow : ∀ (i : Nat) (o : Oper), ops[i]? = some o → ∀ e ∈ o.after, Region.binds .any e = true → e.on < i)
    (hind : ∀ (i j : Nat) (a b : Stp), ss[i]? = some a → ss[j]? = some b → j < i → (∃ S : Nat → Prop, (∀ k o, ops[k]? = some o → S k → ∀ e ∈ o.after, Region.binds .any e = true → S e.on) ∧ S i ∧ ¬ S j) →
      (∀ d ∈ b.ups.map (·.1), d ∉ a.F) ∧ ∀ d ∈ a.ups.map (·.1), d ∉ b.F) (hfin : ∀ tm' w' lim' X', Sim c (runS σ ss) tm' w' lim' X' → Q .normal ⟨tm', []⟩ w') :
    ∀ (fuel : Nat) (listed : Array Bool) (tm : Array Value) (w : World) (lim : Nat → Nat) (X : Nat → Nat → Option Nat), listed.size = ops.size →
      (∀ k o, ops[k]? = some o → listed.getD k false = true → ∀ e ∈ o.after, Region.binds .any e = true → listed.getD e.on false = true) →
      ((List.range ops.size).countP (fun i => !listed.getD i false) ≤ fuel) →
      Sim c (comp (fun i => listed.getD i false) 0 σ ss) tm w lim X → wpAny P .any ops Q fuel listed ⟨tm, []⟩ w := by
  -- where nothing is ready, all is done
  have hdone : ∀ (listed : Array Bool), listed.size = ops.size → Region.ready .any ops listed = [] → ∀ j, j < ops.size → listed.getD j false = true := by
    intro listed hsz hr j
    induction j using Nat.strongRecOn with
    | _ j ih =>
      intro hj
      cases hl : listed.getD j false with
      | true => rfl
      | false =>
        have : j ∈ Region.ready .any ops listed := by
          rw [mem_ready]
          refine ⟨?_, ops[j], Array.getElem?_eq_getElem hj, fun e he hb => ?_⟩
          · simp only [Array.getD, hsz, hj, dite_true] at hl ⊢
            exact hl
          · have hlt := hlow j _ (Array.getElem?_eq_getElem hj) e he hb
            exact ih e.on hlt (by omega)
        rw [hr] at this
        cases this
  have hend : ∀ (listed : Array Bool) (tm : Array Value) (w : World) (lim : Nat → Nat) (X : Nat → Nat → Option Nat), listed.size = ops.size → Region.ready .any ops listed = [] →
      Sim c (comp (fun i => listed.getD i false) 0 σ ss) tm w lim X → Q .normal ⟨tm, []⟩ w := by
    intro listed tm w lim X hsz hr hs
    rw [comp_all _ ss 0 σ fun j _ h2 => hdone listed hsz hr j (by omega)] at hs
    exact hfin tm w lim X hs
  intro fuel
  induction fuel with
  | zero =>
    intro listed tm w lim X hsz hcl hcnt hs
    have hall : ∀ j, j < ops.size → listed.getD j false = true := by
      intro j hj
      have h0 : (List.range ops.size).countP (fun i => !listed.getD i false) = 0 := by omega
      have := (List.countP_eq_zero.1 h0) j (by simpa using hj)
      simpa using this
    have hr : Region.ready .any ops listed = [] := by
      refine List.eq_nil_iff_forall_not_mem.2 fun j hj => ?_
      obtain ⟨h1, o, h2, _⟩ := mem_ready.1 hj
      have hlt := (Array.getElem?_eq_some_iff.1 h2).1
      have := hall j hlt
      simp only [Array.getD, hsz, hlt, dite_true] at h1 this
      rw [h1] at this
      cases this
    exact ⟨hr, hend listed tm w lim X hsz hr hs⟩
  | succ fuel ih =>
    intro listed tm w lim X hsz hcl hcnt hs
    refine ⟨fun hr => hend listed tm w lim X hsz hr hs, fun i hi => ?_⟩
    obtain ⟨h1, o, h2, h3⟩ := mem_ready.1 hi
    have hlt := (Array.getElem?_eq_some_iff.1 h2).1
    have hun : listed.getD i false = false := by
      simp only [Array.getD, hsz, hlt, dite_true] at h1 ⊢
      exact h1
    obtain ⟨s, hsi⟩ : ∃ s, ss[i]? = some s := ⟨_, List.getElem?_eq_getElem (by omega)⟩
    have hst := chain_at ss 0 σ hch i s hsi
    rw [Nat.zero_add] at hst
    have hset : ∀ j, (listed.setIfInBounds i true).getD j false = if j = i then true else listed.getD j false := by
      intro j
      by_cases hji : j = i
      · subst hji
        simp [Array.getD, hsz, hlt]
      · rw [if_neg hji, getD_set_ne false (Ne.symm hji)]
    -- i is not before what is listed
    have hnot : ∀ j, listed.getD j false = true → ∃ S : Nat → Prop, (∀ k o, ops[k]? = some o → S k → ∀ e ∈ o.after, Region.binds .any e = true → S e.on) ∧ S j ∧ ¬ S i :=
      fun j hj => ⟨fun k => listed.getD k false = true, hcl, hj, by simp [hun]⟩
    -- what is not listed is not before i
    have hnot' : ∀ j, j ≠ i → listed.getD j false = false → ∃ S : Nat → Prop, (∀ k o, ops[k]? = some o → S k → ∀ e ∈ o.after, Region.binds .any e = true → S e.on) ∧ S i ∧ ¬ S j := by
      intro j hji hj
      refine ⟨fun k => k = i ∨ listed.getD k false = true, fun k o' hk hS e he hb => ?_, .inl rfl, by simp [hji, hj]⟩
      rcases hS with rfl | hS
      · rw [h2] at hk
        cases hk
        exact .inr (h3 e he hb)
      · exact .inr (hcl k o' hk hS e he hb)
    have hpre : ∀ d ∈ s.F, comp (fun i => listed.getD i false) 0 σ ss d = runS σ (ss.take i) d := by
      intro d hd
      rw [← runS_take ss 0 σ i]
      refine comp_congr _ _ ss 0 σ σ rfl fun j s' hj hdj => ?_
      simp only [Nat.zero_add]
      rcases Nat.lt_trichotomy j i with hlt' | rfl | hgt
      · simp only [hlt', decide_true]
        cases hl : listed.getD j false with
        | true => rfl
        | false => exact (((hind i j s s' hsi hj hlt' (hnot' j (by omega) hl)).1 d hdj) hd).elim
      · simp [hun]
      · have hf : decide (j < i) = false := by simp; omega
        rw [hf]
        cases hl : listed.getD j false with
        | false => rfl
        | true => exact (((hind j i s' s hj hsi hgt (hnot j hl)).2 d hdj) hd).elim
    refine hst.2 c hc hn _ tm w lim X hpre hs Q _ fun tm' w' lim' X' hs' => ?_
    refine ih (listed.setIfInBounds i true) tm' w' lim' X' (by simpa using hsz) ?_ ?_ ?_
    · intro k o' hk hl e he hb
      rw [hset] at hl ⊢
      by_cases hei : e.on = i
      · simp [hei]
      · rw [if_neg hei]
        by_cases hki : k = i
        · subst hki
          rw [h2] at hk
          cases hk
          exact h3 e he hb
        · rw [if_neg hki] at hl
          exact hcl k o' hk hl e he hb
    · have hlt2 : (List.range ops.size).countP (fun j => !(listed.setIfInBounds i true).getD j false) < (List.range ops.size).countP (fun j => !listed.getD j false) := by
        have key : ∀ (l : List Nat), i ∈ l → l.countP (fun j => !(listed.setIfInBounds i true).getD j false) < l.countP (fun j => !listed.getD j false) := by
          have hle : ∀ (l : List Nat), l.countP (fun j => !(listed.setIfInBounds i true).getD j false) ≤ l.countP (fun j => !listed.getD j false) := by
            intro l
            refine List.countP_mono_left fun j _ hj => ?_
            rw [hset] at hj
            split at hj
            · simp at hj
            · exact hj
          intro l
          induction l with
          | nil => intro h; cases h
          | cons x l ihl =>
            intro h
            rw [List.countP_cons, List.countP_cons]
            by_cases hx : x = i
            · subst hx
              have h1 : (listed.setIfInBounds x true).getD x false = true := by rw [hset, if_pos rfl]
              have := hle l
              rw [h1, hun]
              simp only [Bool.not_true, Bool.not_false, Bool.false_eq_true, if_false, if_true]
              omega
            · have := ihl (by rcases List.mem_cons.1 h with h | h; exact (hx h.symm).elim; exact h)
              rw [hset x, if_neg hx]
              omega
        exact key _ (by simpa using hlt)
      omega
    · have he : comp (fun j => (listed.setIfInBounds i true).getD j false) 0 σ ss = updL (comp (fun i => listed.getD i false) 0 σ ss) s.ups := by
        funext d
        rw [updL_last]
        by_cases hd : d ∈ s.ups.map (·.1)
        · have hdF : d ∈ s.F := by
            obtain ⟨u, hu, rfl⟩ := List.mem_map.1 hd
            exact hst.1 u hu
          -- nothing behind i that is listed writes d
          rw [comp_congr (d := d) _ (fun j => decide (j < i + 1)) ss 0 σ σ rfl fun j s' hj hdj => ?_]
          · have := runS_take ss 0 σ (i + 1)
            rw [Nat.zero_add] at this
            rw [this, List.take_add_one, hsi]
            have happ : ∀ (l : List Stp) (τ : Nat → AV), runS τ (l ++ [s]) = updL (runS τ l) s.ups := by
              intro l
              induction l with
              | nil => intro τ; rfl
              | cons x l ihl => intro τ; exact ihl _
            show runS σ (ss.take i ++ [s]) d = _
            rw [happ, updL_last]
            obtain ⟨x, hx⟩ := lastV_some s.ups d hd
            rw [hx]
            rfl
          · rw [Nat.zero_add, hset]
            rcases Nat.lt_trichotomy j i with hlt' | rfl | hgt
            · have : decide (j < i + 1) = true := by simp; omega
              rw [this, if_neg (by omega)]
              cases hl : listed.getD j false with
              | true => rfl
              | false => exact (((hind i j s s' hsi hj hlt' (hnot' j (by omega) hl)).1 d hdj) hdF).elim
            · simp
            · have : decide (j < i + 1) = false := by simp; omega
              rw [this, if_neg (by omega)]
              cases hl : listed.getD j false with
              | false => rfl
              | true => exact (((hind j i s' s hj hsi hgt (hnot j hl)).2 d hdj) hdF).elim
        · rw [lastV_none s.ups d hd]
          refine comp_congr _ _ ss 0 σ σ rfl fun j s' hj hdj => ?_
          rw [Nat.zero_add, hset]
          by_cases hji : j = i
          · subst hji
            rw [hsi] at hj
            cases hj
            exact (hd hdj).elim
          · rw [if_neg hji]
      rw [he]
      exact hs'

end

/-- What 'Region.before' tells lies within what is closed. -/
theorem before_closed {ops : Array Oper} {S : Nat → Prop} (hS : ∀ k o, ops[k]? = some o → S k → ∀ e ∈ o.after, Region.binds .any e = true → S e.on) (i j : Nat) (hi : S i)
    (hb : ((Region.before ops).getD i 0).testBit j = true) : S j := by
  have inner : ∀ (acc : Array Nat), (∀ i j, S i → (acc.getD i 0).testBit j = true → S j) → ∀ (l : List Edge), (∀ e ∈ l, Region.binds .any e = true → S e.on) → ∀ (s : Nat), (∀ j, s.testBit j = true → S j) →
      ∀ j, (l.foldl (fun s e => if Region.binds .any e then s ||| 2 ^ e.on ||| acc.getD e.on 0 else s) s).testBit j = true → S j := by
    intro acc hacc l
    induction l with
    | nil => intro _ s hs j hj; exact hs j hj
    | cons e l ih =>
      intro hl s hs j hj
      rw [List.foldl_cons] at hj
      refine ih (fun e' he' => hl e' (by simp [he'])) _ ?_ j hj
      intro j' hj'
      split at hj'
      · rename_i hbd
        have hon := hl e (by simp) hbd
        rw [Nat.testBit_or, Nat.testBit_or, Nat.testBit_two_pow, Bool.or_eq_true, Bool.or_eq_true, decide_eq_true_eq] at hj'
        rcases hj' with (h | h) | h
        · exact hs j' h
        · rw [← h]; exact hon
        · exact hacc e.on j' hon h
      · exact hs j' hj'
  have outer : ∀ (l : List Oper) (acc : Array Nat), (∀ j, l[j]? = ops[acc.size + j]?) → (∀ i j, S i → (acc.getD i 0).testBit j = true → S j) →
      ∀ i j, S i → ((l.foldl (fun acc o => acc.push (o.after.foldl (fun s e => if Region.binds .any e then s ||| 2 ^ e.on ||| acc.getD e.on 0 else s) 0)) acc).getD i 0).testBit j = true → S j := by
    intro l
    induction l with
    | nil => intro acc _ hacc i j hi hj; exact hacc i j hi hj
    | cons o l ih =>
      intro acc hl hacc i j hi hj
      rw [List.foldl_cons] at hj
      refine ih _ (fun j => ?_) ?_ i j hi hj
      · have := hl (j + 1)
        simp only [List.getElem?_cons_succ, Array.size_push] at this ⊢
        rw [this]
        congr 1
        omega
      · intro i' j' hi' hj'
        have h0 : ops[acc.size]? = some o := by simpa using (hl 0).symm
        by_cases h : i' < acc.size
        · refine hacc i' j' hi' ?_
          simp only [Array.getD, Array.size_push, h, dite_true] at hj' ⊢
          rw [dif_pos (by omega)] at hj'
          simp only [Array.getInternal_eq_getElem, Array.getElem_push, h, dite_true] at hj' ⊢
          exact hj'
        · by_cases h' : i' = acc.size
          · subst h'
            have : (acc.push (o.after.foldl (fun s e => if Region.binds .any e then s ||| 2 ^ e.on ||| acc.getD e.on 0 else s) 0)).getD acc.size 0 = o.after.foldl (fun s e => if Region.binds .any e then s ||| 2 ^ e.on ||| acc.getD e.on 0 else s) 0 := by
              simp [Array.getD]
            rw [this, ← Array.foldl_toList] at hj'
            exact inner acc hacc o.after.toList (fun e he hb => hS acc.size o h0 hi' e (by simpa using he) hb) 0 (by simp) j' hj'
          · have : (acc.push (o.after.foldl (fun s e => if Region.binds .any e then s ||| 2 ^ e.on ||| acc.getD e.on 0 else s) 0)).getD i' 0 = 0 := by
              simp only [Array.getD, Array.size_push]
              rw [dif_neg (by omega)]
            rw [this] at hj'
            simp at hj'
  have := outer ops.toList #[] (fun j => by simp) (fun i j _ h => by simp at h) i j hi
  apply this
  rw [Array.foldl_toList]
  exact hb

end Go.AM
