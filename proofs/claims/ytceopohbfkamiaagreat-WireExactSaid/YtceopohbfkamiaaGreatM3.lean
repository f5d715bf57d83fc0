/- AmReg, AmEvo, AmWeak, AmPat, AmCtl, AmFin, AmPlain, AmUse, AmRet: texts of the proof, put together. -/
import Derived.Test.YtceopohbfkamiaaGreatM2
import Derived.Orders
import Derived.LoopN
import Derived.Scope
import Derived.Laws.Cover3
import Derived.Laws.StructEq

section
namespace Go.AM

/-- What one operation asks of the slots, and what it makes of them. -/
structure Stp where
  F : List Nat
  ups : List (Nat × AV)

/-- 'B': the boxes that are there where the region begins. -/
def StpOk (P : Program) (nt : Nat) (ops : Array Oper) (B : Nat → Prop) (i : Nat) (pre : Nat → AV) (s : Stp) : Prop :=
  (∀ u ∈ s.ups, u.1 ∈ s.F) ∧ (∀ u ∈ s.ups, B u.1 → IsPB u.2) ∧
  ∀ (c : Ctx), c.P = P → c.nt = nt → ∀ (σ' : Nat → AV) (tm : Array Value) (w : World) (lim : Nat → Nat) (X : Nat → Nat → Option Nat),
    (∀ d ∈ s.F, σ' d = pre d) → (∀ d, B d → IsPB (σ' d)) → Sim c σ' tm w lim X → ∀ (Q : Exit → Act → World → Prop) (K : Act → World → Prop),
      (∀ tm' w' lim' X', Sim c (updL σ' s.ups) tm' w' lim' X' → K ⟨tm', []⟩ w') → wpOp P ops Q i K ⟨tm, []⟩ w

def Chain (P : Program) (nt : Nat) (ops : Array Oper) (B : Nat → Prop) : Nat → (Nat → AV) → List Stp → Prop
  | _, _, [] => True
  | i, σ, s :: ss => StpOk P nt ops B i σ s ∧ Chain P nt ops B (i + 1) (updL σ s.ups) ss

theorem updL_pb {B : Nat → Prop} : ∀ (us : List (Nat × AV)) (σ : Nat → AV), (∀ u ∈ us, B u.1 → IsPB u.2) → (∀ d, B d → IsPB (σ d)) → ∀ d, B d → IsPB (updL σ us d)
  | [], _, _, h, d, hd => h d hd
  | (e, x) :: us, σ, hu, h, d, hd => by
    refine updL_pb us (upd σ e x) (fun u h' => hu u (by simp [h'])) (fun d hd => ?_) d hd
    by_cases he : d = e
    · subst he; rw [upd_same]; exact hu (d, x) (by simp) hd
    · rw [upd_other _ _ he]; exact h d hd

def runS (σ : Nat → AV) : List Stp → (Nat → AV)
  | [] => σ
  | s :: ss => runS (updL σ s.ups) ss

section
variable {P : Program} {nt : Nat} {ops : Array Oper} {B : Nat → Prop} {Q : Exit → Act → World → Prop} {c : Ctx}

theorem chain_text (hc : c.P = P) (hn : c.nt = nt) : ∀ (ss : List Stp) (i : Nat) (σ : Nat → AV) (tm : Array Value) (w : World) (lim : Nat → Nat) (X : Nat → Nat → Option Nat),
    Chain P nt ops B i σ ss → (∀ d, B d → IsPB (σ d)) → Sim c σ tm w lim X → (∀ tm' w' lim' X', Sim c (runS σ ss) tm' w' lim' X' → Q .normal ⟨tm', []⟩ w') → wpOps P ops Q (List.range' i ss.length) ⟨tm, []⟩ w
  | [], i, σ, tm, w, lim, X, _, _, hs, hk => by
    show Q .normal ⟨tm, []⟩ w
    exact hk tm w lim X hs
  | s :: ss, i, σ, tm, w, lim, X, h, hb, hs, hk => by
    rw [List.length_cons, List.range'_succ, wpOps_cons]
    exact h.1.2.2 c hc hn σ tm w lim X (fun _ _ => rfl) hb hs Q _ fun tm' w' lim' X' hs' => chain_text hc hn ss (i + 1) _ tm' w' lim' X' h.2 (updL_pb _ _ h.1.2.1 hb) hs' hk

/-- The last value that is laid into slot d. -/
def lastV : List (Nat × AV) → Nat → Option AV
  | [], _ => none
  | (e, x) :: us, d => match lastV us d with | some y => some y | none => if d = e then some x else none

theorem updL_last : ∀ (us : List (Nat × AV)) (σ : Nat → AV) (d : Nat), updL σ us d = (lastV us d).getD (σ d)
  | [], σ, d => rfl
  | (e, x) :: us, σ, d => by
    simp only [updL, lastV, updL_last us]
    cases lastV us d with
    | some y => rfl
    | none =>
      by_cases h : d = e
      · subst h; simp [upd]
      · simp [upd, h]

theorem lastV_none : ∀ (us : List (Nat × AV)) (d : Nat), d ∉ us.map (·.1) → lastV us d = none
  | [], d, _ => rfl
  | (e, x) :: us, d, h => by
    simp only [List.map_cons, List.mem_cons, not_or] at h
    simp only [lastV, lastV_none us d h.2, if_neg h.1]

theorem lastV_some : ∀ (us : List (Nat × AV)) (d : Nat), d ∈ us.map (·.1) → ∃ x, lastV us d = some x
  | [], d, h => by simp at h
  | (e, x) :: us, d, h => by
    simp only [lastV]
    cases hl : lastV us d with
    | some y => exact ⟨y, rfl⟩
    | none =>
      simp only [List.map_cons, List.mem_cons] at h
      rcases h with h | h
      · subst h; exact ⟨x, by simp⟩
      · obtain ⟨y, hy⟩ := lastV_some us d h; rw [hl] at hy; cases hy

/-- What the operations of S among these have made of the slots. -/
def comp (S : Nat → Bool) : Nat → (Nat → AV) → List Stp → (Nat → AV)
  | _, σ, [] => σ
  | i, σ, s :: ss => comp S (i + 1) (if S i = true then updL σ s.ups else σ) ss

theorem comp_all (S : Nat → Bool) : ∀ (ss : List Stp) (i : Nat) (σ : Nat → AV), (∀ j, i ≤ j → j < i + ss.length → S j = true) → comp S i σ ss = runS σ ss
  | [], _, _, _ => rfl
  | s :: ss, i, σ, h => by
    simp only [comp, runS, h i (Nat.le_refl _) (by simp), if_true]
    exact comp_all S ss (i + 1) _ fun j h1 h2 => h j (by omega) (by simp only [List.length_cons]; omega)

theorem comp_none (S : Nat → Bool) : ∀ (ss : List Stp) (i : Nat) (σ : Nat → AV), (∀ j, i ≤ j → j < i + ss.length → S j = false) → comp S i σ ss = σ
  | [], _, _, _ => rfl
  | s :: ss, i, σ, h => by
    simp only [comp, h i (Nat.le_refl _) (by simp), Bool.false_eq_true, if_false]
    exact comp_none S ss (i + 1) _ fun j h1 h2 => h j (by omega) (by simp only [List.length_cons]; omega)

/-- Slot d is the same where the two sets agree on what writes it, and the starts agree. -/
theorem comp_congr {d : Nat} (S T : Nat → Bool) : ∀ (ss : List Stp) (i : Nat) (σ τ : Nat → AV), σ d = τ d → (∀ (j : Nat) (s : Stp), ss[j]? = some s → d ∈ s.ups.map (·.1) → S (i + j) = T (i + j)) → comp S i σ ss d = comp T i τ ss d
  | [], _, _, _, h, _ => h
  | s :: ss, i, σ, τ, h, hS => by
    simp only [comp]
    refine comp_congr S T ss (i + 1) _ _ ?_ fun j s' hs' hd => by
      have := hS (j + 1) s' (by simpa using hs') hd
      rw [show i + 1 + j = i + (j + 1) by omega]
      exact this
    by_cases hd : d ∈ s.ups.map (·.1)
    · have h0 := hS 0 s rfl hd
      rw [Nat.add_zero] at h0
      rw [h0]
      split
      · rw [updL_last, updL_last, h]
      · exact h
    · have hl := lastV_none s.ups d hd
      split <;> split <;> first
        | (rw [updL_last, updL_last, hl]; exact h)
        | (rw [updL_last, hl]; exact h)
        | exact h

theorem runS_take : ∀ (ss : List Stp) (i : Nat) (σ : Nat → AV) (m : Nat), comp (fun j => decide (j < i + m)) i σ ss = runS σ (ss.take m)
  | [], i, σ, m => by simp [comp, runS]
  | s :: ss, i, σ, 0 => by
    rw [List.take_zero]
    exact comp_none _ (s :: ss) i σ fun j h1 _ => by simp; omega
  | s :: ss, i, σ, m + 1 => by
    simp only [comp, List.take_succ_cons, runS, decide_eq_true_eq]
    rw [if_pos (by omega), ← runS_take ss (i + 1)]
    congr 1
    funext j
    rw [show i + 1 + m = i + (m + 1) by omega]

theorem comp_pb (S : Nat → Bool) : ∀ (ss : List Stp) (i : Nat) (σ : Nat → AV), (∀ s ∈ ss, ∀ u ∈ s.ups, B u.1 → IsPB u.2) → (∀ d, B d → IsPB (σ d)) → ∀ d, B d → IsPB (comp S i σ ss d)
  | [], _, _, _, h, d, hd => h d hd
  | s :: ss, i, σ, hu, h, d, hd => by
    simp only [comp]
    refine comp_pb S ss (i + 1) _ (fun s' hs' => hu s' (by simp [hs'])) (fun d hd => ?_) d hd
    split
    · exact updL_pb _ _ (hu s (by simp)) h d hd
    · exact h d hd

theorem chain_ups : ∀ (ss : List Stp) (i : Nat) (σ : Nat → AV), Chain P nt ops B i σ ss → ∀ s ∈ ss, ∀ u ∈ s.ups, B u.1 → IsPB u.2
  | [], _, _, _, s, hs => by simp at hs
  | s0 :: ss, i, σ, h, s, hs => by
    rcases List.mem_cons.1 hs with rfl | hs
    · exact h.1.2.1
    · exact chain_ups ss (i + 1) _ h.2 s hs

theorem chain_at : ∀ (ss : List Stp) (i : Nat) (σ : Nat → AV), Chain P nt ops B i σ ss → ∀ (j : Nat) (s : Stp), ss[j]? = some s → StpOk P nt ops B (i + j) (runS σ (ss.take j)) s
  | [], _, _, _, j, s, h => by simp at h
  | s0 :: ss, i, σ, hc, 0, s, h => by
    simp only [List.getElem?_cons_zero, Option.some.injEq] at h
    subst h
    exact hc.1
  | s0 :: ss, i, σ, hc, j + 1, s, h => by
    have := chain_at ss (i + 1) _ hc.2 j s (by simpa using h)
    rw [show i + (j + 1) = i + 1 + j by omega]
    exact this

/-- Any order: what has not its place by the edges touches nothing in common. -/
theorem chain_any (hc : c.P = P) (hn : c.nt = nt) {ss : List Stp} {σ : Nat → AV} (hch : Chain P nt ops B 0 σ ss) (hpb : ∀ d, B d → IsPB (σ d)) (hlen : ss.length = ops.size)
    (hlow : ∀ (i : Nat) (o : Oper), ops[i]? = some o → ∀ e ∈ o.after, Region.binds .any e = true → e.on < i)
    (hind : ∀ (i j : Nat) (a b : Stp), ss[i]? = some a → ss[j]? = some b → j < i → (∃ S : Nat → Prop, (∀ k o, ops[k]? = some o → S k → ∀ e ∈ o.after, Region.binds .any e = true → S e.on) ∧ S i ∧ ¬ S j) →
      (∀ d ∈ b.ups.map (·.1), d ∉ a.F) ∧ ∀ d ∈ a.ups.map (·.1), d ∉ b.F) (hfin : ∀ tm' w' lim' X', Sim c (runS σ ss) tm' w' lim' X' → Q .normal ⟨tm', []⟩ w') :
    ∀ (fuel : Nat) (listed : Array Bool) (tm : Array Value) (w : World) (lim : Nat → Nat) (X : Nat → Nat → Option Nat), listed.size = ops.size →
      (∀ k o, ops[k]? = some o → listed.getD k false = true → ∀ e ∈ o.after, Region.binds .any e = true → listed.getD e.on false = true) →
      ((List.range ops.size).countP (fun i => !listed.getD i false) ≤ fuel) →
      Sim c (comp (fun i => listed.getD i false) 0 σ ss) tm w lim X → wpAny P .any ops Q fuel listed ⟨tm, []⟩ w := by
  -- where nothing is ready, all is done
  have hdone : ∀ (listed : Array Bool), listed.size = ops.size → Region.ready .any ops listed = [] → ∀ j, j < ops.size → listed.getD j false = true := by
    intro listed hsz hr j
    induction j using Nat.strongRecOn with
    | _ j ih =>
      intro hj
      cases hl : listed.getD j false with
      | true => rfl
      | false =>
        have : j ∈ Region.ready .any ops listed := by
          rw [mem_ready]
          refine ⟨?_, ops[j], Array.getElem?_eq_getElem hj, fun e he hb => ?_⟩
          · simp only [Array.getD, hsz, hj, dite_true] at hl ⊢
            exact hl
          · have hlt := hlow j _ (Array.getElem?_eq_getElem hj) e he hb
            exact ih e.on hlt (by omega)
        rw [hr] at this
        cases this
  have hend : ∀ (listed : Array Bool) (tm : Array Value) (w : World) (lim : Nat → Nat) (X : Nat → Nat → Option Nat), listed.size = ops.size → Region.ready .any ops listed = [] →
      Sim c (comp (fun i => listed.getD i false) 0 σ ss) tm w lim X → Q .normal ⟨tm, []⟩ w := by
    intro listed tm w lim X hsz hr hs
    rw [comp_all _ ss 0 σ fun j _ h2 => hdone listed hsz hr j (by omega)] at hs
    exact hfin tm w lim X hs
  intro fuel
  induction fuel with
  | zero =>
    intro listed tm w lim X hsz hcl hcnt hs
    have hall : ∀ j, j < ops.size → listed.getD j false = true := by
      intro j hj
      have h0 : (List.range ops.size).countP (fun i => !listed.getD i false) = 0 := by omega
      have := (List.countP_eq_zero.1 h0) j (by simpa using hj)
      simpa using this
    have hr : Region.ready .any ops listed = [] := by
      refine List.eq_nil_iff_forall_not_mem.2 fun j hj => ?_
      obtain ⟨h1, o, h2, _⟩ := mem_ready.1 hj
      have hlt := (Array.getElem?_eq_some_iff.1 h2).1
      have := hall j hlt
      simp only [Array.getD, hsz, hlt, dite_true] at h1 this
      rw [h1] at this
      cases this
    exact ⟨hr, hend listed tm w lim X hsz hr hs⟩
  | succ fuel ih =>
    intro listed tm w lim X hsz hcl hcnt hs
    refine ⟨fun hr => hend listed tm w lim X hsz hr hs, fun i hi => ?_⟩
    obtain ⟨h1, o, h2, h3⟩ := mem_ready.1 hi
    have hlt := (Array.getElem?_eq_some_iff.1 h2).1
    have hun : listed.getD i false = false := by
      simp only [Array.getD, hsz, hlt, dite_true] at h1 ⊢
      exact h1
    obtain ⟨s, hsi⟩ : ∃ s, ss[i]? = some s := ⟨_, List.getElem?_eq_getElem (by omega)⟩
    have hst := chain_at ss 0 σ hch i s hsi
    rw [Nat.zero_add] at hst
    have hset : ∀ j, (listed.setIfInBounds i true).getD j false = if j = i then true else listed.getD j false := by
      intro j
      by_cases hji : j = i
      · subst hji
        simp [Array.getD, hsz, hlt]
      · rw [if_neg hji, getD_set_ne false (Ne.symm hji)]
    -- i is not before what is listed
    have hnot : ∀ j, listed.getD j false = true → ∃ S : Nat → Prop, (∀ k o, ops[k]? = some o → S k → ∀ e ∈ o.after, Region.binds .any e = true → S e.on) ∧ S j ∧ ¬ S i :=
      fun j hj => ⟨fun k => listed.getD k false = true, hcl, hj, by simp [hun]⟩
    -- what is not listed is not before i
    have hnot' : ∀ j, j ≠ i → listed.getD j false = false → ∃ S : Nat → Prop, (∀ k o, ops[k]? = some o → S k → ∀ e ∈ o.after, Region.binds .any e = true → S e.on) ∧ S i ∧ ¬ S j := by
      intro j hji hj
      refine ⟨fun k => k = i ∨ listed.getD k false = true, fun k o' hk hS e he hb => ?_, .inl rfl, by simp [hji, hj]⟩
      rcases hS with rfl | hS
      · rw [h2] at hk
        cases hk
        exact .inr (h3 e he hb)
      · exact .inr (hcl k o' hk hS e he hb)
    have hpre : ∀ d ∈ s.F, comp (fun i => listed.getD i false) 0 σ ss d = runS σ (ss.take i) d := by
      intro d hd
      rw [← runS_take ss 0 σ i]
      refine comp_congr _ _ ss 0 σ σ rfl fun j s' hj hdj => ?_
      simp only [Nat.zero_add]
      rcases Nat.lt_trichotomy j i with hlt' | rfl | hgt
      · simp only [hlt', decide_true]
        cases hl : listed.getD j false with
        | true => rfl
        | false => exact (((hind i j s s' hsi hj hlt' (hnot' j (by omega) hl)).1 d hdj) hd).elim
      · simp [hun]
      · have hf : decide (j < i) = false := by simp; omega
        rw [hf]
        cases hl : listed.getD j false with
        | false => rfl
        | true => exact (((hind j i s' s hj hsi hgt (hnot j hl)).2 d hdj) hd).elim
    refine hst.2.2 c hc hn _ tm w lim X hpre (comp_pb _ ss 0 σ (chain_ups ss 0 σ hch) hpb) hs Q _ fun tm' w' lim' X' hs' => ?_
    refine ih (listed.setIfInBounds i true) tm' w' lim' X' (by simpa using hsz) ?_ ?_ ?_
    · intro k o' hk hl e he hb
      rw [hset] at hl ⊢
      by_cases hei : e.on = i
      · simp [hei]
      · rw [if_neg hei]
        by_cases hki : k = i
        · subst hki
          rw [h2] at hk
          cases hk
          exact h3 e he hb
        · rw [if_neg hki] at hl
          exact hcl k o' hk hl e he hb
    · have hlt2 : (List.range ops.size).countP (fun j => !(listed.setIfInBounds i true).getD j false) < (List.range ops.size).countP (fun j => !listed.getD j false) := by
        have key : ∀ (l : List Nat), i ∈ l → l.countP (fun j => !(listed.setIfInBounds i true).getD j false) < l.countP (fun j => !listed.getD j false) := by
          have hle : ∀ (l : List Nat), l.countP (fun j => !(listed.setIfInBounds i true).getD j false) ≤ l.countP (fun j => !listed.getD j false) := by
            intro l
            refine List.countP_mono_left fun j _ hj => ?_
            rw [hset] at hj
            split at hj
            · simp at hj
            · exact hj
          intro l
          induction l with
          | nil => intro h; cases h
          | cons x l ihl =>
            intro h
            rw [List.countP_cons, List.countP_cons]
            by_cases hx : x = i
            · subst hx
              have h1 : (listed.setIfInBounds x true).getD x false = true := by rw [hset, if_pos rfl]
              have := hle l
              rw [h1, hun]
              simp only [Bool.not_true, Bool.not_false, Bool.false_eq_true, if_false, if_true]
              omega
            · have := ihl (by rcases List.mem_cons.1 h with h | h; exact (hx h.symm).elim; exact h)
              rw [hset x, if_neg hx]
              omega
        exact key _ (by simpa using hlt)
      omega
    · have he : comp (fun j => (listed.setIfInBounds i true).getD j false) 0 σ ss = updL (comp (fun i => listed.getD i false) 0 σ ss) s.ups := by
        funext d
        rw [updL_last]
        by_cases hd : d ∈ s.ups.map (·.1)
        · have hdF : d ∈ s.F := by
            obtain ⟨u, hu, rfl⟩ := List.mem_map.1 hd
            exact hst.1 u hu
          -- nothing behind i that is listed writes d
          rw [comp_congr (d := d) _ (fun j => decide (j < i + 1)) ss 0 σ σ rfl fun j s' hj hdj => ?_]
          · have := runS_take ss 0 σ (i + 1)
            rw [Nat.zero_add] at this
            rw [this, List.take_add_one, hsi]
            have happ : ∀ (l : List Stp) (τ : Nat → AV), runS τ (l ++ [s]) = updL (runS τ l) s.ups := by
              intro l
              induction l with
              | nil => intro τ; rfl
              | cons x l ihl => intro τ; exact ihl _
            show runS σ (ss.take i ++ [s]) d = _
            rw [happ, updL_last]
            obtain ⟨x, hx⟩ := lastV_some s.ups d hd
            rw [hx]
            rfl
          · rw [Nat.zero_add, hset]
            rcases Nat.lt_trichotomy j i with hlt' | rfl | hgt
            · have : decide (j < i + 1) = true := by simp; omega
              rw [this, if_neg (by omega)]
              cases hl : listed.getD j false with
              | true => rfl
              | false => exact (((hind i j s s' hsi hj hlt' (hnot' j (by omega) hl)).1 d hdj) hdF).elim
            · simp
            · have : decide (j < i + 1) = false := by simp; omega
              rw [this, if_neg (by omega)]
              cases hl : listed.getD j false with
              | false => rfl
              | true => exact (((hind j i s' s hj hsi hgt (hnot j hl)).2 d hdj) hdF).elim
        · rw [lastV_none s.ups d hd]
          refine comp_congr _ _ ss 0 σ σ rfl fun j s' hj hdj => ?_
          rw [Nat.zero_add, hset]
          by_cases hji : j = i
          · subst hji
            rw [hsi] at hj
            cases hj
            exact (hd hdj).elim
          · rw [if_neg hji]
      rw [he]
      exact hs'

end

/-- What 'Region.before' tells lies within what is closed. -/
theorem before_closed {ops : Array Oper} {S : Nat → Prop} (hS : ∀ k o, ops[k]? = some o → S k → ∀ e ∈ o.after, Region.binds .any e = true → S e.on) (i j : Nat) (hi : S i)
    (hb : ((Region.before ops).getD i 0).testBit j = true) : S j := by
  have inner : ∀ (acc : Array Nat), (∀ i j, S i → (acc.getD i 0).testBit j = true → S j) → ∀ (l : List Edge), (∀ e ∈ l, Region.binds .any e = true → S e.on) → ∀ (s : Nat), (∀ j, s.testBit j = true → S j) →
      ∀ j, (l.foldl (fun s e => if Region.binds .any e then s ||| 2 ^ e.on ||| acc.getD e.on 0 else s) s).testBit j = true → S j := by
    intro acc hacc l
    induction l with
    | nil => intro _ s hs j hj; exact hs j hj
    | cons e l ih =>
      intro hl s hs j hj
      rw [List.foldl_cons] at hj
      refine ih (fun e' he' => hl e' (by simp [he'])) _ ?_ j hj
      intro j' hj'
      split at hj'
      · rename_i hbd
        have hon := hl e (by simp) hbd
        rw [Nat.testBit_or, Nat.testBit_or, Nat.testBit_two_pow, Bool.or_eq_true, Bool.or_eq_true, decide_eq_true_eq] at hj'
        rcases hj' with (h | h) | h
        · exact hs j' h
        · rw [← h]; exact hon
        · exact hacc e.on j' hon h
      · exact hs j' hj'
  have outer : ∀ (l : List Oper) (acc : Array Nat), (∀ j, l[j]? = ops[acc.size + j]?) → (∀ i j, S i → (acc.getD i 0).testBit j = true → S j) →
      ∀ i j, S i → ((l.foldl (fun acc o => acc.push (o.after.foldl (fun s e => if Region.binds .any e then s ||| 2 ^ e.on ||| acc.getD e.on 0 else s) 0)) acc).getD i 0).testBit j = true → S j := by
    intro l
    induction l with
    | nil => intro acc _ hacc i j hi hj; exact hacc i j hi hj
    | cons o l ih =>
      intro acc hl hacc i j hi hj
      rw [List.foldl_cons] at hj
      refine ih _ (fun j => ?_) ?_ i j hi hj
      · have := hl (j + 1)
        simp only [List.getElem?_cons_succ, Array.size_push] at this ⊢
        rw [this]
        congr 1
        omega
      · intro i' j' hi' hj'
        have h0 : ops[acc.size]? = some o := by simpa using (hl 0).symm
        by_cases h : i' < acc.size
        · refine hacc i' j' hi' ?_
          simp only [Array.getD, Array.size_push, h, dite_true] at hj' ⊢
          rw [dif_pos (by omega)] at hj'
          simp only [Array.getInternal_eq_getElem, Array.getElem_push, h, dite_true] at hj' ⊢
          exact hj'
        · by_cases h' : i' = acc.size
          · subst h'
            have : (acc.push (o.after.foldl (fun s e => if Region.binds .any e then s ||| 2 ^ e.on ||| acc.getD e.on 0 else s) 0)).getD acc.size 0 = o.after.foldl (fun s e => if Region.binds .any e then s ||| 2 ^ e.on ||| acc.getD e.on 0 else s) 0 := by
              simp [Array.getD]
            rw [this, ← Array.foldl_toList] at hj'
            exact inner acc hacc o.after.toList (fun e he hb => hS acc.size o h0 hi' e (by simpa using he) hb) 0 (by simp) j' hj'
          · have : (acc.push (o.after.foldl (fun s e => if Region.binds .any e then s ||| 2 ^ e.on ||| acc.getD e.on 0 else s) 0)).getD i' 0 = 0 := by
              simp only [Array.getD, Array.size_push]
              rw [dif_neg (by omega)]
            rw [this] at hj'
            simp at hj'
  have := outer ops.toList #[] (fun j => by simp) (fun i j _ h => by simp at h) i j hi
  apply this
  rw [Array.foldl_toList]
  exact hb

end Go.AM
end

section
namespace Go.AM

theorem Tr.get_set : ∀ (k : Nat) (t : Tr) (d i : Nat) (x : SV), d < 2 ^ k → i < 2 ^ k → (Tr.set k t d x).get i = if i = d then x else t.get i
  | 0, t, d, i, x, hd, hi => by
    have h1 : d = 0 := by simpa using hd
    have h2 : i = 0 := by simpa using hi
    subst h1
    subst h2
    rfl
  | k + 1, .node l r, d, i, x, hd, hi => by
    have hd2 : d / 2 < 2 ^ k := by rw [Nat.pow_succ] at hd; omega
    have hi2 : i / 2 < 2 ^ k := by rw [Nat.pow_succ] at hi; omega
    have ihl := Tr.get_set k l (d / 2) (i / 2) x hd2 hi2
    have ihr := Tr.get_set k r (d / 2) (i / 2) x hd2 hi2
    rcases Nat.mod_two_eq_zero_or_one d with h | h <;> rcases Nat.mod_two_eq_zero_or_one i with h' | h'
    · simp only [Tr.set, h, Tr.get, h', ihl]
      by_cases he : i = d
      · simp [he]
      · rw [if_neg he, if_neg (by omega)]
    · simp only [Tr.set, h, Tr.get, h']
      rw [if_neg (by omega)]
    · simp only [Tr.set, h, Tr.get, h']
      rw [if_neg (by omega)]
    · simp only [Tr.set, h, Tr.get, h', ihr]
      by_cases he : i = d
      · simp [he]
      · rw [if_neg he, if_neg (by omega)]
  | k + 1, .leaf y, d, i, x, hd, hi => by
    have hd2 : d / 2 < 2 ^ k := by rw [Nat.pow_succ] at hd; omega
    have hi2 : i / 2 < 2 ^ k := by rw [Nat.pow_succ] at hi; omega
    have ih := Tr.get_set k (.leaf y) (d / 2) (i / 2) x hd2 hi2
    rcases Nat.mod_two_eq_zero_or_one d with h | h <;> rcases Nat.mod_two_eq_zero_or_one i with h' | h'
    · simp only [Tr.set, h, Tr.get, h', ih]
      by_cases he : i = d
      · simp [he]
      · rw [if_neg he, if_neg (by omega)]
    · simp only [Tr.set, h, Tr.get, h']
      rw [if_neg (by omega)]
    · simp only [Tr.set, h, Tr.get, h']
      rw [if_neg (by omega)]
    · simp only [Tr.set, h, Tr.get, h', ih]
      by_cases he : i = d
      · simp [he]
      · rw [if_neg he, if_neg (by omega)]

def sden (E : Env) (s : Tr) (ρ : Nat → V) : Nat → AV := fun d => (gE E s d).den ρ
def stBd (E : Env) (s : Tr) (n : Nat) : Prop := ∀ d, (gE E s d).bd n

section
variable {P : Program} {E : Env} {R : AV → List AV → Prop} {A : Nat → List V → Prop}

theorem lt_top {d : Nat} (h : d < E.nt) : d < E.top := Nat.lt_of_lt_of_le h (Nat.le_add_right _ _)

theorem gE_set (hnt : E.top ≤ 1024) {d : Nat} (hd : d < E.top) (s : Tr) (x : SV) (i : Nat) : gE E (s.set depth d x) i = if i = d then x else gE E s i := by
  unfold gE
  by_cases hi : i < E.top
  · rw [if_pos hi, if_pos hi]
    exact Tr.get_set 10 s d i x (by omega) (by omega)
  · rw [if_neg hi, if_neg hi, if_neg (by omega)]

theorem sden_set (hnt : E.top ≤ 1024) {d : Nat} (hd : d < E.top) (s : Tr) (x : SV) (ρ : Nat → V) : sden E (s.set depth d x) ρ = upd (sden E s ρ) d (x.den ρ) := by
  funext i
  simp only [sden, gE_set hnt hd, upd]
  split <;> rfl

theorem stBd_set (hnt : E.top ≤ 1024) {d n : Nat} (hd : d < E.top) {s : Tr} {x : SV} (hs : stBd E s n) (hx : x.bd n) : stBd E (s.set depth d x) n := by
  intro i
  rw [gE_set hnt hd]
  split
  · exact hx
  · exact hs i

def usLow (E : Env) (us : Ups) : Prop := us.all (fun u => decide (u.1 < E.top)) = true

theorem sden_applyU (hnt : E.top ≤ 1024) (ρ : Nat → V) : ∀ (us : Ups) (s : Tr), usLow E us → sden E (applyU us s) ρ = updL (sden E s ρ) (us.map fun u => (u.1, u.2.den ρ))
  | [], _, _ => rfl
  | (d, x) :: us, s, h => by
    simp only [usLow, List.all_cons, Bool.and_eq_true, decide_eq_true_eq] at h
    simp only [applyU, List.map_cons, updL]
    rw [sden_applyU hnt ρ us _ h.2, sden_set hnt h.1]

theorem stBd_applyU (hnt : E.top ≤ 1024) {n : Nat} : ∀ (us : Ups) (s : Tr), usLow E us → stBd E s n → (∀ u ∈ us, u.2.bd n) → stBd E (applyU us s) n
  | [], _, _, hs, _ => hs
  | (d, x) :: us, s, h, hs, hu => by
    simp only [usLow, List.all_cons, Bool.and_eq_true, decide_eq_true_eq] at h
    exact stBd_applyU hnt us _ h.2 (stBd_set hnt h.1 hs (hu (d, x) (by simp))) fun u h' => hu u (by simp [h'])

theorem stBd_mono {s : Tr} {n n' : Nat} (h : stBd E s n) (hn : n ≤ n') : stBd E s n' := fun d => SV.bd_mono hn _ (h d)

theorem sden_congr {s : Tr} {n : Nat} {ρ ρ' : Nat → V} (h : stBd E s n) (hρ : ∀ m, m < n → ρ' m = ρ m) : sden E s ρ' = sden E s ρ := by
  funext d
  exact SV.den_congr hρ _ (h d)

theorem notBox_den {x : SV} (ρ : Nat → V) (h : ∀ cs, x ≠ .box cs) : ∀ cs, x.den ρ ≠ .box cs := by
  intro cs he
  cases x with
  | box ds => exact h ds rfl
  | c y => cases y <;> cases he
  | _ => cases he

theorem notG_den {x : SV} (ρ : Nat → V) (h : ∀ cs, x ≠ .gbox cs) : (x.den ρ).isG = false := by
  cases x with
  | gbox cs => exact (h cs rfl).elim
  | c y => cases y <;> rfl
  | _ => rfl

theorem mayPutS_of {a b : AV} (ga : a.isG = false) (gb : b.isG = false) (ha : ∀ cs, a ≠ .box cs) (hb : (∀ cs, b ≠ .box cs) ∨ a = .dead) : mayPutS a b = true := by
  unfold mayPutS
  split
  · cases ga
  · cases gb
  · rename_i cs _; exact (ha cs rfl).elim
  · rfl
  · rename_i h1 h2
    rcases hb with hb | hb
    · exact (hb _ rfl).elim
    · exact (h2 hb).elim
  · rfl

theorem mayPut_den {a b : SV} (ρ : Nat → V) (h : mayPut a b = true) : mayPutS (a.den ρ) (b.den ρ) = true := by
  cases a with
  | gbox cs => cases b <;> cases h
  | box cs => cases b <;> cases h
  | dead =>
    cases b with
    | gbox cs => cases h
    | _ => exact mayPutS_of rfl (notG_den ρ fun _ h => by cases h) (notBox_den ρ (fun _ h => by cases h)) (.inr rfl)
  | _ =>
    cases b with
    | gbox cs => cases h
    | box cs => cases h
    | _ => exact mayPutS_of (notG_den ρ fun _ h => by cases h) (notG_den ρ fun _ h => by cases h) (notBox_den ρ (fun _ h => by cases h)) (.inl (notBox_den ρ (fun _ h => by cases h)))

theorem updL_append (σ : Nat → AV) : ∀ (us vs : List (Nat × AV)), updL σ (us ++ vs) = updL (updL σ us) vs
  | [], _ => rfl
  | (d, x) :: us, vs => by
    simp only [List.cons_append, updL]
    exact updL_append _ us vs

theorem yielded_of {c : Ctx} {σ : Nat → AV} {tm : Array Value} {w : World} {lim : Nat → Nat} {X : Nat → Nat → Option Nat} (h : Sim c σ tm w lim X) {ops : Array Oper} {j gd : Nat} {b : Bool}
    (hd : (ops[j]?).bind (·.dst) = some gd) (hb : σ gd = .val (.bool b)) : yielded ops tm j = some b := by
  have hlt : gd < tm.size := by
    rcases Nat.lt_or_ge gd c.nt with h1 | h1
    · rw [h.size]; exact h1
    · have := h.out gd h1; rw [hb] at this; rcases this with h2 | h2 <;> cases h2
  have hr := h.rel gd
  rw [hb] at hr
  have hv : tm.getD gd undef = .bool b := rep_val hr
  have h2 : tm[gd]? = some (.bool b) := by
    simp only [Array.getD, hlt, dite_true] at hv
    rw [Array.getElem?_eq_getElem hlt]
    exact congrArg some hv
  unfold yielded
  simp only [hd, Option.bind_some, h2]

theorem yielded_none {c : Ctx} {σ : Nat → AV} {tm : Array Value} {w : World} {lim : Nat → Nat} {X : Nat → Nat → Option Nat} (h : Sim c σ tm w lim X) {ops : Array Oper} {j gd : Nat}
    (hd : (ops[j]?).bind (·.dst) = some gd) (hb : σ gd = .tuple []) : yielded ops tm j = none := by
  have hr := h.rel gd
  rw [hb] at hr
  obtain ⟨us, h1, h2, _⟩ := hr
  have : us = [] := List.eq_nil_of_length_eq_zero h2
  subst this
  unfold yielded
  simp only [hd, Option.bind_some]
  by_cases hlt : gd < tm.size
  · simp only [Array.getD, hlt, dite_true] at h1
    have h3 : tm[gd]? = some (.tuple #[]) := by
      rw [Array.getElem?_eq_getElem hlt]
      exact congrArg some h1
    simp only [h3]
  · simp only [Array.getElem?_eq_none (Nat.le_of_not_lt hlt)]

theorem Sim.putUndef {c : Ctx} {σ : Nat → AV} {tm : Array Value} {w : World} {lim : Nat → Nat} {X : Nat → Nat → Option Nat} (h : Sim c σ tm w lim X) {d : Nat} (hd : d < c.nt) (hb : ∀ cs, σ d ≠ .box cs) :
    ∃ X', Sim c (upd σ d (.tuple [])) (tm.setIfInBounds d undef) w lim X' :=
  ⟨_, h.putRow noRow (WStep.refl w lim (fun _ => False)) (fun _ hs => hs.elim) hd (by simp) (fun i hi => getD_set_other tm d i undef hi) (.inl hb)
    ⟨[], by rw [getD_set tm d undef (by rw [h.size]; exact hd)]; rfl, rfl, by simp⟩ (fun k b hk => by simp [noRow] at hk) (fun k k' b hk => by simp [noRow] at hk)⟩

/-- What a guard says of the slots. -/
def guardOk (ops : Array Oper) (o : Oper) (σ : Nat → AV) (gs : List Nat) (v : Bool) : Prop :=
  (o.guard = none ∧ v = true) ∨ (∃ j want gd b, o.guard = some (j, want) ∧ (ops[j]?).bind (·.dst) = some gd ∧ gd ∈ gs ∧ σ gd = .val (.bool b) ∧ (v = true ↔ want = b)) ∨
  ∃ j want gd, o.guard = some (j, want) ∧ (ops[j]?).bind (·.dst) = some gd ∧ gd ∈ gs ∧ σ gd = .tuple [] ∧ v = false

theorem wanted_of {ops : Array Oper} {o : Oper} {σ : Nat → AV} {gs : List Nat} {v : Bool} (hg : guardOk ops o σ gs v) {c : Ctx} {σ' : Nat → AV} {tm : Array Value} {w : World} {lim : Nat → Nat} {X : Nat → Nat → Option Nat}
    (h : Sim c σ' tm w lim X) (hag : ∀ d ∈ gs, σ' d = σ d) : Region.wanted o (yielded ops tm) = v := by
  rcases hg with ⟨h1, h2⟩ | ⟨j, want, gd, b, h1, h2, h3, h4, h5⟩ | ⟨j, want, gd, h1, h2, h3, h4, h5⟩
  · unfold Region.wanted; rw [h1, h2]
  · have hy := yielded_of h h2 ((hag gd h3).trans h4)
    unfold Region.wanted
    rw [h1]
    simp only [hy]
    cases v <;> cases want <;> cases b <;> simp_all
  · have hy := yielded_none h h2 ((hag gd h3).trans h4)
    unfold Region.wanted
    rw [h1, h5]
    simp only [hy]
    rfl

/-- The outcome of one operation. -/
theorem isPB_den {x : SV} (ρ : Nat → V) (h : isPB x = true) : IsPB (x.den ρ) := by
  unfold isPB at h
  split at h
  · rename_i cs; exact ⟨_, rfl, plainB_ok h ρ⟩
  · cases h

def StepGoal (P : Program) (E : Env) (R : AV → List AV → Prop) (A : Nat → List V → Prop) (B : Nat → Bool) (ops : Array Oper) (i : Nat) (s : Tr) (ρ : Nat → V) (cont : Tr → Nat → Log → STree) : Prop :=
  ∃ (st : Stp) (ρ' : Nat → V) (n' : Nat) (s' : Tr), stBd E s' n' ∧ (cont s' n' ⟨i, st.F, st.ups.map (·.1)⟩).wp P R A ρ' ∧ StpOk P E.nt ops (fun d => B d = true) i (sden E s ρ) st ∧ sden E s' ρ' = updL (sden E s ρ) st.ups

variable {ops : Array Oper} {o : Oper} {i : Nat} {s : Tr} {n : Nat} {ρ : Nat → V} {cont : Tr → Nat → Log → STree} {gs : List Nat} {tk : Bool} {B : Nat → Bool}

theorem evRun_sound (hps : PlainSound P E.plain) (hnt : E.top ≤ 1024) (hB : ∀ d, B d = true → IsPB (sden E s ρ d)) (hi : ops[i]? = some o) (hs : stBd E s n) (hg : guardOk ops o (sden E s ρ) gs true) (h : (evRun P E tk B o i s gs n cont).wp P R A ρ) :
    StepGoal P E R A B ops i s ρ cont := by
  obtain ⟨ρ', n', x, us, fp, h1, h2, h3, h4, h5, h6⟩ := evOp_sound hps hs h
  have hσ : (fun d => (gE E s d).den ρ) = sden E s ρ := rfl
  rw [hσ] at h6
  have hs' : stBd E s n' := stBd_mono hs h1
  have hc := sden_congr hs h2
  dsimp only at h5
  split at h5
  case isFalse => exact h5.elim
  rename_i hall
  rw [List.all_eq_true] at hall
  have hlow : usLow E us := by
    unfold usLow
    rw [List.all_eq_true]
    intro u hu
    have := hall u hu
    rw [Bool.and_eq_true] at this
    exact this.1
  have hups : ∀ u ∈ (us.map fun u => (u.1, u.2.den ρ')), B u.1 = true → IsPB u.2 := by
    intro u hu hb
    obtain ⟨v, hv, rfl⟩ := List.mem_map.1 hu
    have := hall v hv
    simp only [Bool.and_eq_true, Bool.or_eq_true, Bool.not_eq_true'] at this
    rcases this.2 with h0 | h0
    · have hb' : B v.1 = true := hb
      rw [hb'] at h0; cases h0
    · exact isPB_den ρ' h0
  have hids : ∀ (σ' : Nat → AV), (∀ d ∈ (usesOf o).filter (fun t => !B t), σ' d = sden E s ρ d) → (∀ d, B d = true → IsPB (σ' d)) → ∀ d ∈ usesOf o, SameId (sden E s ρ d) (σ' d) := by
    intro σ' h0 h1 d hd
    cases hb : B d with
    | true => exact .inr ⟨hB d hb, h1 d hb⟩
    | false => exact .inl (h0 d (List.mem_filter.2 ⟨hd, by simp [hb]⟩))
  have hfst : (us.map fun u => (u.1, u.2.den ρ')).map (·.1) = us.map (·.1) := by rw [List.map_map]; rfl
  have hden : sden E (applyU us s) ρ' = updL (sden E s ρ) (us.map fun u => (u.1, u.2.den ρ')) := by rw [sden_applyU hnt ρ' us s hlow, hc]
  split at h5
  · rename_i d hd
    split at h5
    · rename_i hh
      refine ⟨⟨(usesOf o).filter (fun t => !B t) ++ gs ++ fp ++ us.map (·.1) ++ [d], (us.map fun u => (u.1, u.2.den ρ')) ++ [(d, x.den ρ')]⟩, ρ', n', (applyU us s).set depth d x, stBd_set hnt (lt_top hh.1) (stBd_applyU hnt us s hlow hs' h4) h3, ?_, ⟨?_, ?_, ?_⟩, ?_⟩
      · rw [List.map_append, hfst]
        exact h5
      · intro u hu
        rcases List.mem_append.1 hu with hu | hu
        · refine List.mem_append.2 (.inl (List.mem_append.2 (.inr ?_)))
          rw [← hfst]
          exact List.mem_map.2 ⟨u, hu, rfl⟩
        · rw [List.mem_singleton] at hu
          subst hu
          simp
      · intro u hu hb
        rcases List.mem_append.1 hu with hu | hu
        · exact hups u hu hb
        · rw [List.mem_singleton] at hu
          subst hu
          have hb' : B d = true := hb
          rw [hh.2.2] at hb'
          cases hb'
      · intro c hcP hcn σ' tm w lim X hag hpb hsim Q K hK
        unfold wpOp
        simp only [hi]
        rw [wanted_of hg hsim fun d' hd' => hag d' (by simp [hd'])]
        rw [if_pos rfl]
        refine .inl (h6 c hcP σ' tm w lim X (hids σ' (fun d' hd' => hag d' (by simp only [List.mem_append]; exact .inl (.inl (.inl (.inl hd'))))) hpb) (fun d' hd' => hag d' (by
          rw [hfst] at hd'
          simp only [List.mem_append] at hd' ⊢
          rcases hd' with hd' | hd'
          · exact .inl (.inl (.inr hd'))
          · exact .inl (.inr hd'))) hsim K Q fun v w' ha => ?_)
        rw [hd] at ha ⊢
        obtain ⟨lim', X', hsim'⟩ := ha (by rw [hcn]; exact hh.1) (by
          have : updL σ' (us.map fun u => (u.1, u.2.den ρ')) d = (gE E (applyU us s) d).den ρ' := by
            have h7 := congrFun hden d
            rw [updL_last] at h7 ⊢
            rw [hag d (by simp)]
            exact h7.symm
          rw [this]
          exact mayPut_den ρ' hh.2.1)
        refine hK _ w' lim' X' ?_
        rw [updL_append]
        exact hsim'
      · rw [sden_set hnt (lt_top hh.1), hden, updL_append]
        rfl
    · exact h5.elim
  · rename_i hd
    refine ⟨⟨(usesOf o).filter (fun t => !B t) ++ gs ++ fp ++ us.map (·.1), us.map fun u => (u.1, u.2.den ρ')⟩, ρ', n', applyU us s, stBd_applyU hnt us s hlow hs' h4, ?_, ⟨?_, hups, ?_⟩, hden⟩
    · rw [hfst]
      exact h5
    · intro u hu
      refine List.mem_append.2 (.inr ?_)
      rw [← hfst]
      exact List.mem_map.2 ⟨u, hu, rfl⟩
    · intro c hcP hcn σ' tm w lim X hag hpb hsim Q K hK
      unfold wpOp
      simp only [hi]
      rw [wanted_of hg hsim fun d' hd' => hag d' (by simp [hd'])]
      rw [if_pos rfl]
      refine .inl (h6 c hcP σ' tm w lim X (hids σ' (fun d' hd' => hag d' (by simp only [List.mem_append]; exact .inl (.inl (.inl hd')))) hpb) (fun d' hd' => hag d' (by
        rw [hfst] at hd'
        simp only [List.mem_append] at hd' ⊢
        rcases hd' with hd' | hd'
        · exact .inl (.inr hd')
        · exact .inr hd')) hsim K Q fun v w' ha => ?_)
      rw [hd] at ha ⊢
      obtain ⟨lim', X', hsim'⟩ := ha
      exact hK _ w' lim' X' hsim'

theorem evSkip_sound (hnt : E.top ≤ 1024) (hi : ops[i]? = some o) (hs : stBd E s n) (hg : guardOk ops o (sden E s ρ) gs false) (h : (evSkip E B o i s gs n cont).wp P R A ρ) :
    StepGoal P E R A B ops i s ρ cont := by
  unfold evSkip at h
  split at h
  · rename_i d hd
    split at h
    · rename_i hh
      refine ⟨⟨gs ++ [d], [(d, .tuple [])]⟩, ρ, n, s.set depth d (.tuple []), stBd_set hnt (lt_top hh.1) hs (by simp [SV.bd]), h, ⟨by simp, fun u hu hb => ?_, ?_⟩, sden_set hnt (lt_top hh.1) _ _ _⟩
      · rw [List.mem_singleton] at hu
        subst hu
        have hb' : B d = true := hb
        rw [hh.2.2] at hb'
        cases hb'
      intro c hcP hcn σ' tm w lim X hag hpb hsim Q K hK
      unfold wpOp
      simp only [hi]
      rw [wanted_of hg hsim fun d' hd' => hag d' (by simp [hd'])]
      rw [if_neg (by simp), hd]
      obtain ⟨X', hs'⟩ := hsim.putUndef (d := d) (by rw [hcn]; exact hh.1) (by
        rw [hag d (by simp)]
        exact mayPutS_old (mayPut_den ρ hh.2.1))
      exact hK _ w lim X' hs'
    · exact h.elim
  · rename_i hd
    refine ⟨⟨gs, []⟩, ρ, n, s, hs, h, ⟨by simp, by simp, ?_⟩, rfl⟩
    intro c hcP hcn σ' tm w lim X hag hpb hsim Q K hK
    unfold wpOp
    simp only [hi]
    rw [wanted_of hg hsim hag]
    rw [if_neg (by simp), hd]
    exact hK _ w lim X hsim

theorem sden_refine (hnt : E.top ≤ 1024) {t : Nat} {b : BE} {v : Bool} (hb : gE E s t = .c (.bool b)) (hv : b.den ρ = v) : t < E.top ∧ sden E (s.set depth t (.c (.bool (.lit v)))) ρ = sden E s ρ := by
  have hlt : t < E.top := by
    unfold gE at hb
    split at hb
    · assumption
    · cases hb
  refine ⟨hlt, ?_⟩
  rw [sden_set hnt hlt]
  funext d
  by_cases hd : d = t
  · subst hd
    rw [upd_same]
    simp only [sden, hb, SV.den, SC.den, hv, BE.den]
  · rw [upd_other _ _ hd]

theorem evStep_sound (hps : PlainSound P E.plain) (hnt : E.top ≤ 1024) (hB : ∀ d, B d = true → IsPB (sden E s ρ d)) (hi : ops[i]? = some o) (hs : stBd E s n) (h : (evStep P E tk B ops o i s n cont).wp P R A ρ) : StepGoal P E R A B ops i s ρ cont := by
  unfold evStep at h
  split at h
  · rename_i hg
    exact evRun_sound hps hnt hB hi hs (.inl ⟨hg, rfl⟩) h
  · rename_i j want hg
    split at h
    · exact h.elim
    · rename_i gd hgd
      split at h
      · rename_i hb
        have hv : sden E s ρ gd = .tuple [] := by simp only [sden, hb]; rfl
        exact evSkip_sound hnt hi hs (.inr (.inr ⟨j, want, gd, hg, hgd, by simp, hv, rfl⟩)) h
      · rename_i b hb
        have hv : sden E s ρ gd = .val (.bool b) := by simp only [sden, hb]; rfl
        split at h
        · rename_i hw
          exact evRun_sound hps hnt hB hi hs (.inr (.inl ⟨j, want, gd, b, hg, hgd, by simp, hv, by simp [hw]⟩)) h
        · rename_i hw
          exact evSkip_sound hnt hi hs (.inr (.inl ⟨j, want, gd, b, hg, hgd, by simp, hv, by simp [hw]⟩)) h
      · rename_i b _ hb
        obtain ⟨ht, hf⟩ := h
        have hcase : ∀ v, b.den ρ = v → (if want = v then evRun P E tk B o i (s.set depth gd (.c (.bool (.lit v)))) [gd] n cont else evSkip E B o i (s.set depth gd (.c (.bool (.lit v)))) [gd] n cont).wp P R A ρ → StepGoal P E R A B ops i s ρ cont := by
          intro v hv hw
          obtain ⟨hlt, hsame⟩ := sden_refine hnt hb hv
          have hbd : stBd E (s.set depth gd (.c (.bool (.lit v)))) n := stBd_set hnt hlt hs trivial
          have hval : sden E (s.set depth gd (.c (.bool (.lit v)))) ρ gd = .val (.bool v) := by rw [hsame]; simp only [sden, hb, SV.den, SC.den, hv]
          have hgoal : StepGoal P E R A B ops i (s.set depth gd (.c (.bool (.lit v)))) ρ cont := by
            split at hw
            · rename_i hw'
              exact evRun_sound hps hnt (by rw [hsame]; exact hB) hi hbd (.inr (.inl ⟨j, want, gd, v, hg, hgd, by simp, hval, by simp [hw']⟩)) hw
            · rename_i hw'
              exact evSkip_sound hnt hi hbd (.inr (.inl ⟨j, want, gd, v, hg, hgd, by simp, hval, by simp [hw']⟩)) hw
          unfold StepGoal at hgoal ⊢
          rw [hsame] at hgoal
          exact hgoal
        cases hv : b.den ρ with
        | true => exact hcase true hv (ht hv)
        | false => exact hcase false hv (hf hv)
      · exact h.elim

def logsOf : Nat → List Stp → List Log
  | _, [] => []
  | i, s :: ss => logsOf (i + 1) ss ++ [⟨i, s.F, s.ups.map (·.1)⟩]

theorem logsOf_mem : ∀ (ss : List Stp) (i j : Nat) (s : Stp), ss[j]? = some s → (⟨i + j, s.F, s.ups.map (·.1)⟩ : Log) ∈ logsOf i ss
  | [], i, j, s, h => by simp at h
  | s0 :: ss, i, 0, s, h => by
    simp only [List.getElem?_cons_zero, Option.some.injEq] at h
    subst h
    simp [logsOf]
  | s0 :: ss, i, j + 1, s, h => by
    have := logsOf_mem ss (i + 1) j s (by simpa using h)
    rw [show i + (j + 1) = i + 1 + j by omega]
    exact List.mem_append.2 (.inl this)

theorem evOps_sound (hps : PlainSound P E.plain) (hnt : E.top ≤ 1024) {tks : Nat → Bool} {k : Tr → Nat → List Log → STree} : ∀ (l : List Oper) (i : Nat) (s : Tr) (n : Nat) (logs : List Log) (ρ : Nat → V), (∀ j, l[j]? = ops[i + j]?) → (∀ d, B d = true → IsPB (sden E s ρ d)) → stBd E s n →
    (evOps P E tks B ops l i s n logs k).wp P R A ρ → ∃ (ss : List Stp) (ρ' : Nat → V) (n' : Nat) (s' : Tr), ss.length = l.length ∧ stBd E s' n' ∧ (k s' n' (logsOf i ss ++ logs)).wp P R A ρ' ∧
      Chain P E.nt ops (fun d => B d = true) i (sden E s ρ) ss ∧ sden E s' ρ' = runS (sden E s ρ) ss
  | [], i, s, n, logs, ρ, _, _, hs, h => ⟨[], ρ, n, s, rfl, hs, h, trivial, rfl⟩
  | o :: l, i, s, n, logs, ρ, hl, hB, hs, h => by
    have h0 : ops[i]? = some o := by simpa using (hl 0).symm
    obtain ⟨st, ρ1, n1, s1, g1, g2, g3, g4⟩ := evStep_sound hps hnt hB h0 hs h
    obtain ⟨ss, ρ2, n2, s2, k1, k2, k3, k4, k5⟩ := evOps_sound hps hnt l (i + 1) s1 n1 _ ρ1 (fun j => by
      have := hl (j + 1)
      rw [show i + (j + 1) = i + 1 + j by omega] at this
      simpa using this) (by rw [g4]; exact updL_pb _ _ g3.2.1 hB) g1 g2
    refine ⟨st :: ss, ρ2, n2, s2, by simp [k1], k2, ?_, ⟨g3, ?_⟩, ?_⟩
    · simp only [logsOf, List.append_assoc, List.singleton_append]
      exact k3
    · rw [← g4]; exact k4
    · simp only [runS]
      rw [← g4]; exact k5

theorem disj_ok {a b : List Nat} (h : disj a b = true) : ∀ d ∈ a, d ∉ b := by
  intro d hd
  simp only [disj, List.all_eq_true] at h
  simpa using h d hd

theorem region_sound (hm : P.follows .mixedOrders = true) (hps : PlainSound P E.plain) (hnt : E.top ≤ 1024) {id : Nat} {draw : Bool} {k : Tr → Nat → STree} {tks : Nat → Bool} (hB : ∀ d, B d = true → IsPB (sden E s ρ d)) (hs : stBd E s n)
    (h : (evOps P E tks B ops ops.toList 0 s n [] fun s' n' logs => if draw = true then (if indepOk ops logs = true then k s' n' else .stuck 114) else k s' n').wp P R A ρ)
    {c : Ctx} (hcP : c.P = P) (hcn : c.nt = E.nt) {tm : Array Value} {w : World} {lim : Nat → Nat} {X : Nat → Nat → Option Nat} (hsim : Sim c (sden E s ρ) tm w lim X) {Q : Exit → Act → World → Prop}
    (hk : ∀ s' n' ρ', stBd E s' n' → (k s' n').wp P R A ρ' → ∀ tm' w' lim' X', Sim c (sden E s' ρ') tm' w' lim' X' → Q .normal ⟨tm', []⟩ w') : (Code.region id ops draw).wp P Q ⟨tm, []⟩ w := by
  obtain ⟨ss, ρ', n', s', h1, h2, h3, h4, h5⟩ := evOps_sound hps hnt ops.toList 0 s n [] ρ (by simp) hB hs h
  have hlen : ss.length = ops.size := by simpa using h1
  cases draw with
  | false =>
    refine wp_region ?_
    rw [List.range_eq_range', ← hlen]
    refine chain_text hcP hcn ss 0 _ tm w lim X h4 hB hsim fun tm' w' lim' X' hs' => hk s' n' ρ' h2 (by simpa using h3) tm' w' lim' X' ?_
    rw [h5]; exact hs'
  | true =>
    simp only [if_true] at h3
    split at h3
    · rename_i hi
      rw [List.append_nil] at hi
      simp only [indepOk, Bool.and_eq_true, CheckFast.beforeF_eq] at hi
      obtain ⟨hlow, hind⟩ := hi
      refine wp_region_any hm ?_
      have hsd : Sim c (sden E s ρ) tm w.drew lim X := hsim.world (WStep.refl w lim fun _ => False).drew fun b hb => hb.elim
      refine chain_any hcP hcn h4 hB hlen ?_ ?_ (fun tm' w' lim' X' hs' => hk s' n' ρ' h2 h3 tm' w' lim' X' (by rw [h5]; exact hs')) ops.size _ tm w.drew lim X (by simp) ?_ ?_ ?_
      · intro i o hio e he hb
        rw [List.all_eq_true] at hlow
        have := hlow (o, i) (by
          rw [List.mem_zipIdx_iff_getElem?]
          simpa using hio)
        rw [Array.all_eq_true_iff_forall_mem] at this
        have := this e he
        simpa [hb] using this
      · rintro i j a b hia hjb hji ⟨S, hS, hSi, hSj⟩
        rw [List.all_eq_true] at hind
        have m1 := logsOf_mem ss 0 i a hia
        have m2 := logsOf_mem ss 0 j b hjb
        rw [Nat.zero_add] at m1 m2
        have := hind _ m1
        rw [List.all_eq_true] at this
        have := this _ m2
        simp only [Bool.or_eq_true, Bool.and_eq_true, Bool.not_eq_true', decide_eq_false_iff_not] at this
        rcases this with (this | this) | this
        · exact (this hji).elim
        · exact (hSj (before_closed hS i j hSi this)).elim
        · exact ⟨disj_ok this.1, disj_ok this.2⟩
      · intro k o hk hl
        have hlt := (Array.getElem?_eq_some_iff.1 hk).1
        simp [Array.getD, hlt] at hl
      · have := List.countP_le_length (p := fun i => !(Array.replicate ops.size false).getD i false) (l := List.range ops.size)
        simpa using this
      · rw [comp_none]
        · exact hsd
        · intro j _ hj
          simp [Array.getD]
    · exact h3.elim

end

end Go.AM
end

section
namespace Go.AM

/-- A cell or component 'x' may stand where 'y' is looked for. -/
inductive CellW (P : Program) : AV → AV → Prop
  | same {x : AV} (h : x.isCell = true ∨ ∃ e xs, x = .own e xs) : CellW P x x
  | nil {s s' : Nat} {f : Bool} : CellW P (.slice true s []) (.slice f s' [])
  | imm {f : Bool} {s : Nat} {xs : List (List AV)} : CellW P (.slice f s xs) (.slice false s xs)
  | immN {f : Bool} {s s' : Nat} : CellW P (.slice f s []) (.slice false s' [])
  | own {e : TypeId} {xs : List (List AV)} : CellW P (.own e xs) (.slice false (P.cellsOf e) xs)
  | give {s : Nat} {e : TypeId} : CellW P (.slice true s []) (.own e [])

theorem rep_own {w : World} {lim : Nat → Nat} {e : TypeId} {xs : List (List AV)} {v : Value} (h : Rep w lim (.own e xs) v) : False := by cases h

theorem rep_weak {P : Program} {w : World} {lim : Nat → Nat} {x y : AV} {v : Value} (h : Rep w lim x v) (hw : CellW P x y) (hy : y.isCell = true) : Rep w lim y v := by
  cases hw with
  | same _ => exact h
  | nil => exact rep_nil (fun _ => rfl) h
  | imm => exact rep_imm h
  | immN => exact rep_nil (fun h => by cases h) h
  | own => exact (rep_own h).elim
  | give => cases hy

theorem cell_weak {P : Program} {w : World} {lim : Nat → Nat} {ob : Option Nat} {x y : AV} {v : Value} (h : CellR P w lim ob x v) (hw : CellW P x y) : ∃ ob', (ob' = ob ∨ ob' = none) ∧ CellR P w lim ob' y v := by
  cases hw with
  | same _ => exact ⟨ob, .inl rfl, h⟩
  | nil => exact ⟨ob, .inl rfl, rep_nil (fun _ => rfl) h⟩
  | imm => exact ⟨ob, .inl rfl, rep_imm h⟩
  | immN => exact ⟨ob, .inl rfl, rep_nil (fun h => by cases h) h⟩
  | own => exact ⟨ob, .inl rfl, OwnR.rep h false rfl⟩
  | give => exact ⟨none, .inr rfl, own_full h⟩

/-- A whole value. -/
inductive CompW (P : Program) : AV → AV → Prop
  | cell {x y : AV} (h : CellW P x y) : CompW P x y
  | agg {cs cs' : List AV} (hl : cs.length = cs'.length) (hc : ∀ c ∈ cs', c.isCell = true) (h : ∀ (i : Nat) (c c' : AV), cs[i]? = some c → cs'[i]? = some c' → CellW P c c') : CompW P (.agg cs) (.agg cs')

theorem rep_agg {w : World} {lim : Nat → Nat} {cs : List AV} {v : Value} (h : Rep w lim (.agg cs) v) : ∃ vs : List Value, v = .agg vs.toArray ∧ cs.length = vs.length ∧
    ∀ (i : Nat) (c : AV) (v : Value), cs[i]? = some c → vs[i]? = some v → Rep w lim c v := by
  cases h with
  | agg hl hc hr => exact ⟨_, rfl, hl, hr⟩

theorem comp_weak {P : Program} {w : World} {lim : Nat → Nat} {ob : Option Nat} {x y : AV} {v : Value} (h : CellR P w lim ob x v) (hw : CompW P x y) : ∃ ob', (ob' = ob ∨ ob' = none) ∧ CellR P w lim ob' y v := by
  cases hw with
  | cell hw => exact cell_weak h hw
  | @agg cs cs' hl hc hp =>
    refine ⟨ob, .inl rfl, ?_⟩
    obtain ⟨vs, rfl, h1, h2⟩ := rep_agg (show Rep w lim (.agg cs) v from h)
    refine Rep.agg (by omega) hc fun i c' u hc' hu => ?_
    obtain ⟨c, hcc⟩ : ∃ c, cs[i]? = some c := ⟨_, List.getElem?_eq_getElem (by rw [hl]; exact (List.getElem?_eq_some_iff.1 hc').1)⟩
    exact rep_weak (h2 i c u hcc hu) (hp i c c' hcc hc') (hc c' (List.mem_of_getElem? hc'))

theorem choose_obs {P : Program} {w : World} {lim : Nat → Nat} {cs cs' : List AV} {us : List Value} {Y : Nat → Option Nat} (hl : cs.length = cs'.length) (h : ∀ (i : Nat) (c : AV) (u : Value), cs[i]? = some c → us[i]? = some u → CellR P w lim (Y i) c u)
    (hw : ∀ (i : Nat) (c c' : AV), cs[i]? = some c → cs'[i]? = some c' → CompW P c c') :
    ∃ r : Nat → Option Nat, (∀ i, r i = Y i ∨ r i = none) ∧ ∀ (i : Nat) (c' : AV) (u : Value), cs'[i]? = some c' → us[i]? = some u → CellR P w lim (r i) c' u := by
  have key : ∀ i, ∃ ob : Option Nat, (ob = Y i ∨ ob = none) ∧ ∀ (c' : AV) (u : Value), cs'[i]? = some c' → us[i]? = some u → CellR P w lim ob c' u := by
    intro i
    cases hc' : cs'[i]? with
    | none => exact ⟨none, .inr rfl, fun c' u h => by cases h⟩
    | some c' =>
      cases hu : us[i]? with
      | none => exact ⟨none, .inr rfl, fun c' u _ h => by cases h⟩
      | some u =>
        obtain ⟨c, hc⟩ : ∃ c, cs[i]? = some c := ⟨_, List.getElem?_eq_getElem (by rw [hl]; exact (List.getElem?_eq_some_iff.1 hc').1)⟩
        obtain ⟨ob, h1, h2⟩ := comp_weak (h i c u hc hu) (hw i c c' hc hc')
        refine ⟨ob, h1, fun c2 u2 e1 e2 => ?_⟩
        cases e1
        cases e2
        exact h2
  obtain ⟨r, hr⟩ := Classical.axiomOfChoice key
  exact ⟨r, fun i => (hr i).1, fun i => (hr i).2⟩

inductive SlotW (P : Program) : AV → AV → Prop
  | dead {x : AV} : SlotW P x .dead
  | comp {x y : AV} (h : CompW P x y) : SlotW P x y
  | tuple {cs cs' : List AV} (hl : cs.length = cs'.length) (h : ∀ (i : Nat) (c c' : AV), cs[i]? = some c → cs'[i]? = some c' → CompW P c c') : SlotW P (.tuple cs) (.tuple cs')
  | box {cs cs' : List AV} (hl : cs.length = cs'.length) (h : ∀ (i : Nat) (c c' : AV), cs[i]? = some c → cs'[i]? = some c' → CellW P c c') : SlotW P (.box cs) (.box cs')
  | row {e : TypeId} {n cap : Nat} {xs : List (List AV)} : SlotW P (.box [.row e n cap xs]) (.box [.row e n cap xs])
  | gbox {cs cs' : List AV} (hl : cs.length = cs'.length) (h : ∀ (i : Nat) (c c' : AV), cs[i]? = some c → cs'[i]? = some c' → CellW P c c') : SlotW P (.gbox cs) (.gbox cs')

theorem cellW_right {P : Program} {x y : AV} (h : CellW P x y) : y.isCell = true ∨ ∃ e xs, y = .own e xs := by
  cases h with
  | same h => exact h
  | nil => exact .inl rfl
  | imm => exact .inl rfl
  | immN => exact .inl rfl
  | own => exact .inl rfl
  | give => exact .inr ⟨_, _, rfl⟩

theorem cellW_left {P : Program} {x y : AV} (h : CellW P x y) : x.isCell = true ∨ ∃ e xs, x = .own e xs := by
  cases h with
  | same h => exact h
  | nil => exact .inl rfl
  | imm => exact .inl rfl
  | immN => exact .inl rfl
  | own => exact .inr ⟨_, _, rfl⟩
  | give => exact .inl rfl

theorem noRow_of {cs : List AV} (h : ∀ c ∈ cs, c.isCell = true ∨ ∃ e xs, c = .own e xs) : NoRow cs := by
  intro c hc e n cap xs he
  subst he
  rcases h _ hc with h | ⟨_, _, h⟩ <;> cases h

theorem noRow_left {P : Program} {cs cs' : List AV} (hl : cs.length = cs'.length) (h : ∀ (i : Nat) (c c' : AV), cs[i]? = some c → cs'[i]? = some c' → CellW P c c') : NoRow cs := by
  refine noRow_of fun c hc => ?_
  obtain ⟨i, hi⟩ := List.mem_iff_getElem?.1 hc
  have hlt : i < cs'.length := by rw [← hl]; exact (List.getElem?_eq_some_iff.1 hi).1
  exact cellW_left (h i c _ hi (List.getElem?_eq_getElem hlt))

theorem noRow_right {P : Program} {cs cs' : List AV} (hl : cs.length = cs'.length) (h : ∀ (i : Nat) (c c' : AV), cs[i]? = some c → cs'[i]? = some c' → CellW P c c') : NoRow cs' := by
  refine noRow_of fun c hc => ?_
  obtain ⟨i, hi⟩ := List.mem_iff_getElem?.1 hc
  have hlt : i < cs.length := by rw [hl]; exact (List.getElem?_eq_some_iff.1 hi).1
  exact cellW_right (h i _ c (List.getElem?_eq_getElem hlt) hi)

theorem plain_weak {P : Program} {w : World} {lim : Nat → Nat} {Y : Nat → Option Nat} {cs cs' : List AV} {v : Value} (h : PlainR P w lim Y cs v) (hl : cs.length = cs'.length)
    (hp : ∀ (i : Nat) (c c' : AV), cs[i]? = some c → cs'[i]? = some c' → CellW P c c') : ∃ r : Nat → Option Nat, (∀ k, r k = Y k ∨ r k = none) ∧ r 0 = Y 0 ∧ PlainR P w lim r cs' v := by
  obtain ⟨b, arr, t, h1, rfl, h3, h4, h5, h6, h7⟩ := h
  obtain ⟨r, g1, g2⟩ := choose_obs (P := P) (w := w) (lim := lim) (us := arr.toList) (Y := fun i => Y (i + 1)) hl (fun i c u hc hu => h7 i c u hc (by simpa using hu)) (fun i c c' hc hc' => .cell (hp i c c' hc hc'))
  refine ⟨fun k => match k with | 0 => Y 0 | k + 1 => r k, fun k => ?_, rfl, ?_⟩
  · cases k with
    | zero => exact .inl rfl
    | succ k => exact g1 k
  · refine ⟨b, arr, t, h1, rfl, h3, by rw [h4, hl], h5, fun c hc => ?_, fun i c u hc hu => g2 i c u hc (by simpa using hu)⟩
    obtain ⟨i, hi⟩ := List.mem_iff_getElem?.1 hc
    obtain ⟨c0, hc0⟩ : ∃ c0, cs[i]? = some c0 := ⟨_, List.getElem?_eq_getElem (by rw [hl]; exact (List.getElem?_eq_some_iff.1 hi).1)⟩
    exact cellW_right (hp i c0 c hc0 hi)

theorem compW_right {P : Program} {x y : AV} (h : CompW P x y) : y.isB = false := by
  cases h with
  | agg _ _ _ => rfl
  | cell h =>
    rcases cellW_right h with hy | ⟨_, _, rfl⟩
    · cases y <;> first | rfl | (simp [AV.isCell] at hy)
    · rfl

theorem slotW_G {P : Program} {x y : AV} (h : SlotW P x y) (hy : y.isG = true) : x.isG = true := by
  cases h with
  | gbox _ _ => rfl
  | comp h => have := compW_right h; rw [isG_isB hy] at this; cases this
  | _ => cases hy

theorem slotW_B {P : Program} {x y : AV} (h : SlotW P x y) (hy : y.isB = true) : x.isB = true := by
  cases h with
  | gbox _ _ => rfl
  | box _ _ => rfl
  | row => rfl
  | comp h => have := compW_right h; rw [hy] at this; cases this
  | _ => cases hy

theorem compW_no {P : Program} {x y : AV} (h : CompW P x y) : (∀ d o, y ≠ .ptr d o) ∧ (∀ d, y ≠ .mref d) ∧ ∀ g ds, y ≠ .clo g ds := by
  cases h with
  | agg _ _ _ => exact ⟨fun _ _ h => (by cases h), fun _ h => (by cases h), fun _ _ h => (by cases h)⟩
  | cell hw =>
    refine ⟨fun _ _ e => ?_, fun _ e => ?_, fun _ _ e => ?_⟩ <;> subst e <;> rcases cellW_right hw with h | ⟨_, _, h⟩ <;> cases h

theorem slotW_no {P : Program} {x y : AV} (h : SlotW P x y) : (∀ d o, y ≠ .ptr d o) ∧ (∀ d, y ≠ .mref d) ∧ ∀ g ds, y ≠ .clo g ds := by
  cases h with
  | comp hw => exact compW_no hw
  | _ => exact ⟨fun _ _ h => (by cases h), fun _ h => (by cases h), fun _ _ h => (by cases h)⟩

theorem slot_weak {P : Program} {w : World} {lim : Nat → Nat} {X : Nat → Nat → Option Nat} {σ : Nat → AV} {d : Nat} {x y : AV} {v : Value} (h : SlotR P w lim X σ d x v) (hw : SlotW P x y) :
    ∃ r : Nat → Option Nat, (∀ k, r k = X d k ∨ r k = none) ∧ (y.isB = true → r 0 = X d 0) ∧ ∀ (X' : Nat → Nat → Option Nat) (σ' : Nat → AV) (d' : Nat), X' d' = r → SlotR P w lim X' σ' d' y v := by
  cases hw with
  | dead => exact ⟨fun _ => none, fun _ => .inr rfl, fun h => (by cases h), fun _ _ _ _ => trivial⟩
  | comp hw =>
    have hnb := compW_right hw
    have hc : CellR P w lim (X d 0) x v := by
      cases hw with
      | agg hl hc hp => exact h
      | cell hw =>
        rcases cellW_left hw with hx | ⟨e, xs, rfl⟩
        · cases x <;> simp [AV.isCell] at hx <;> exact h
        · exact h
    obtain ⟨ob, h1, h2⟩ := comp_weak hc hw
    refine ⟨fun k => if k = 0 then ob else none, fun k => ?_, fun h => by (rw [hnb] at h; cases h), fun X' σ' d' hX => ?_⟩
    · dsimp only
      split
      · rename_i hk; subst hk; exact h1
      · exact .inr rfl
    · have h3 : X' d' 0 = ob := by rw [hX]; rfl
      cases hw with
      | agg hl hc hp => exact h2
      | cell hw =>
        rcases cellW_right hw with hy | ⟨e, xs, rfl⟩
        · cases y <;> simp [AV.isCell] at hy <;> exact h2
        · show OwnR P w lim e xs v (X' d' 0)
          rw [h3]
          exact h2
  | @tuple cs cs' hl hp =>
    obtain ⟨us, rfl, h2, h3⟩ := h
    obtain ⟨r, g1, g2⟩ := choose_obs (Y := fun i => X d (i + 1)) hl h3 hp
    refine ⟨fun k => match k with | 0 => none | k + 1 => r k, fun k => ?_, fun h => (by cases h), fun X' σ' d' hX => ?_⟩
    · cases k with
      | zero => exact .inr rfl
      | succ k => exact g1 k
    · refine ⟨us, rfl, by rw [h2, hl], fun i c u hc hu => ?_⟩
      have : X' d' (i + 1) = r i := by rw [hX]
      rw [this]
      exact g2 i c u hc hu
  | row =>
    have hr := BoxR.row h
    exact ⟨fun k => match k with | 0 => X d 0 | k + 1 => none, fun k => by cases k with | zero => exact .inl rfl | succ k => exact .inr rfl, fun _ => rfl,
      fun X' σ' d' hX => .inr ⟨_, _, _, _, rfl, by rw [hX]; exact hr⟩⟩
  | @box cs cs' hl hp =>
    obtain ⟨r, g1, g2, g3⟩ := plain_weak (BoxR.plain h (noRow_left hl hp)) hl hp
    exact ⟨r, g1, fun _ => g2, fun X' σ' d' hX => .inl (by rw [hX]; exact g3)⟩
  | @gbox cs cs' hl hp =>
    obtain ⟨v', h⟩ := h
    obtain ⟨r, g1, g2, g3⟩ := plain_weak h hl hp
    exact ⟨r, g1, fun _ => g2, fun X' σ' d' hX => ⟨v', by rw [hX]; exact g3⟩⟩

theorem WStep.wider {w : World} {lim : Nat → Nat} {w' : World} {lim' : Nat → Nat} {S S' : Nat → Prop} (h : WStep w lim w' lim' S) (hs : ∀ b, S b → S' b) : WStep w lim w' lim' S' :=
  ⟨h.os, h.tape, h.output, h.size, h.frz, fun b hb hn => h.blk b hb fun hS => hn (hs b hS), h.ext⟩

/-- A function value, among these slots. -/
def CloW (bs : List AV) (a b : AV) : Prop := ∃ g ds, a = .clo g ds ∧ b = .clo g ds ∧ ∀ d ∈ ds, (argS bs d).isB = true

/-- Lists of slots, place by place. -/
def SlotsW (P : Program) (as bs : List AV) : Prop := as.length = bs.length ∧ ∀ (i : Nat) (a b : AV), as[i]? = some a → bs[i]? = some b → SlotW P a b ∨ CloW bs a b

theorem slotsW_at {P : Program} {as bs : List AV} (h : SlotsW P as bs) (i : Nat) : SlotW P (argS as i) (argS bs i) ∨ CloW bs (argS as i) (argS bs i) := by
  cases hb : bs[i]? with
  | none =>
    have : argS bs i = .dead := by simp [argS, hb]
    rw [this]
    exact .inl .dead
  | some b =>
    obtain ⟨a, ha⟩ : ∃ a, as[i]? = some a := ⟨_, List.getElem?_eq_getElem (by rw [h.1]; exact (List.getElem?_eq_some_iff.1 hb).1)⟩
    have h1 : argS as i = a := by simp [argS, ha]
    have h2 : argS bs i = b := by simp [argS, hb]
    rw [h1, h2]
    exact h.2 i a b ha hb

theorem slotsW_G {P : Program} {as bs : List AV} (h : SlotsW P as bs) {i : Nat} (hi : (argS bs i).isG = true) : (argS as i).isG = true := by
  rcases slotsW_at h i with h1 | ⟨g, ds, _, h1, _⟩
  · exact slotW_G h1 hi
  · rw [h1] at hi; cases hi

theorem slotsW_B {P : Program} {as bs : List AV} (h : SlotsW P as bs) {i : Nat} (hi : (argS bs i).isB = true) : (argS as i).isB = true := by
  rcases slotsW_at h i with h1 | ⟨g, ds, _, h1, _⟩
  · exact slotW_B h1 hi
  · rw [h1] at hi; cases hi

theorem countG_le : ∀ (as bs : List AV), as.length = bs.length → (∀ (i : Nat) (a b : AV), as[i]? = some a → bs[i]? = some b → b.isG = true → a.isG = true) → bs.countP AV.isG ≤ as.countP AV.isG
  | [], [], _, _ => Nat.le_refl _
  | [], _ :: _, h, _ => by simp at h
  | _ :: _, [], h, _ => by simp at h
  | a :: as, b :: bs, hl, h => by
    have ih := countG_le as bs (by simpa using hl) fun i x y hx hy => h (i + 1) x y (by simpa using hx) (by simpa using hy)
    have h0 := h 0 a b rfl rfl
    rw [List.countP_cons, List.countP_cons]
    by_cases hb : b.isG = true
    · rw [if_pos hb, if_pos (h0 hb)]; omega
    · rw [if_neg hb]; split <;> omega

theorem slotsW_count {P : Program} {as bs : List AV} (h : SlotsW P as bs) : bs.countP AV.isG ≤ as.countP AV.isG :=
  countG_le as bs h.1 fun i a b ha hb hg => by
    have h1 : argS as i = a := by simp [argS, ha]
    have h2 : argS bs i = b := by simp [argS, hb]
    have := slotsW_G h (i := i) (by rw [h2]; exact hg)
    rwa [h1] at this

theorem slots_weak {P : Program} {w : World} {lim : Nat → Nat} {X : Nat → Nat → Option Nat} {as bs : List AV} {vs : Nat → Value} (h : ∀ i, SlotR P w lim X (argS as) i (argS as i) (vs i)) (hw : SlotsW P as bs) :
    ∃ X' : Nat → Nat → Option Nat, (∀ i k, X' i k = X i k ∨ X' i k = none) ∧ (∀ i, (argS bs i).isB = true → X' i 0 = X i 0) ∧ ∀ i, SlotR P w lim X' (argS bs) i (argS bs i) (vs i) := by
  have key : ∀ i, ∃ r : Nat → Option Nat, (∀ k, r k = X i k ∨ r k = none) ∧ ((argS bs i).isB = true → r 0 = X i 0) ∧ ((∀ g ds, argS bs i ≠ .clo g ds) → ∀ X' : Nat → Nat → Option Nat, X' i = r → SlotR P w lim X' (argS bs) i (argS bs i) (vs i)) := by
    intro i
    rcases slotsW_at hw i with h1 | ⟨g, ds, _, h1, _⟩
    · obtain ⟨r, g1, g2, g3⟩ := slot_weak (h i) h1
      exact ⟨r, g1, g2, fun _ X' hX => g3 X' _ _ hX⟩
    · exact ⟨fun _ => none, fun _ => .inr rfl, fun hb => by (rw [h1] at hb; cases hb), fun hn => (hn g ds h1).elim⟩
  obtain ⟨X', hX⟩ := Classical.axiomOfChoice key
  refine ⟨X', fun i => (hX i).1, fun i => (hX i).2.1, fun i => ?_⟩
  by_cases hc : ∃ g ds, argS bs i = .clo g ds
  · obtain ⟨g, ds, hc⟩ := hc
    rcases slotsW_at hw i with h1 | ⟨g', ds', h0, h1, h2⟩
    · rw [hc] at h1
      exact ((slotW_no h1).2.2 g ds rfl).elim
    · rw [h1] at hc
      cases hc
      have hi := h i
      rw [h0] at hi
      rw [h1]
      obtain ⟨bs', m1, m2, m3⟩ := hi
      refine ⟨bs', m1, m2, fun k d b hd hb => ?_⟩
      have hB := h2 d (List.mem_of_getElem? hd)
      exact ⟨((hX d).2.1 hB).trans (m3 k d b hd hb).1, hB⟩
  · exact (hX i).2.2 (fun g ds e => hc ⟨g, ds, e⟩) X' rfl

theorem dist_weak {X X' : Nat → Nat → Option Nat} (h : Dist X) (hX : ∀ i k, X' i k = X i k ∨ X' i k = none) : Dist X' := by
  intro d k d' k' b h1 h2
  rcases hX d k with e1 | e1
  · rcases hX d' k' with e2 | e2
    · exact h d k d' k' b (e1.symm.trans h1) (e2.symm.trans h2)
    · rw [e2] at h2; cases h2
  · rw [e1] at h1; cases h1

theorem CallOk.weak {P : Program} {f : FuncId} {as bs : List AV} {res res' : AV} {outs outs' : List AV} (h : CallOk P f bs res outs) (ha : SlotsW P as bs) (ho : SlotsW P (outs ++ [res]) (outs' ++ [res'])) : CallOk P f as res' outs' := by
  refine ⟨h.1, fun w lim X cargs hcl hrel hdist hsize => ?_⟩
  obtain ⟨X2, g1, g3, g2⟩ := slots_weak hrel ha
  have hX2 : ∀ i k b, X2 i k = some b → X i k = some b := by
    intro i k b hb
    rcases g1 i k with e | e
    · rw [← e]; exact hb
    · rw [e] at hb; cases hb
  refine (h.2 w lim X2 cargs (by have := slotsW_count ha; have := ha.1; omega) g2 (dist_weak hdist g1) fun i k b hb => hsize i k b (hX2 i k b hb)).mono ?_
  rintro e w' ⟨v, lim', X', he, hst, hol, hr, hd, hin, hgh⟩
  obtain ⟨X3, k1, k3, k2⟩ := slots_weak hr ho
  have hX3 : ∀ i k b, X3 i k = some b → X' i k = some b := by
    intro i k b hb
    rcases k1 i k with e | e
    · rw [← e]; exact hb
    · rw [e] at hb; cases hb
  have hll : outs.length = outs'.length := by have := ho.1; simpa using this
  refine ⟨v, lim', X3, he, hst.wider fun b ⟨i, k, hb⟩ => ⟨i, k, hX2 i k b hb⟩, by rw [← hll, hol, ha.1], fun i => ?_, dist_weak hd k1, fun i k b hb => ?_, fun i hi => ?_⟩
  · rw [ha.1]; exact k2 i
  · obtain ⟨m1, m2⟩ := hin i k b (hX3 i k b hb)
    exact ⟨m1, m2.imp (fun ⟨i, k, h⟩ => ⟨i, k, hX2 i k b h⟩) id⟩
  · obtain ⟨m1, m2⟩ := hgh i (slotsW_G ho hi)
    exact ⟨slotsW_G ha m1, by rw [k3 i (isG_isB hi), m2, g3 i (isG_isB m1)]⟩

theorem CallOk.stronger {P : Program} {f : FuncId} {as bs : List AV} {res : AV} {outs : List AV} (h : CallOk P f bs res outs) (ha : SlotsW P as bs) : CallOk P f as res outs := by
  refine ⟨h.1, fun w lim X cargs hcl hrel hdist hsize => ?_⟩
  obtain ⟨X2, g1, g3, g2⟩ := slots_weak hrel ha
  have hX2 : ∀ i k b, X2 i k = some b → X i k = some b := by
    intro i k b hb
    rcases g1 i k with e | e
    · rw [← e]; exact hb
    · rw [e] at hb; cases hb
  refine (h.2 w lim X2 cargs (by have := slotsW_count ha; have := ha.1; omega) g2 (dist_weak hdist g1) fun i k b hb => hsize i k b (hX2 i k b hb)).mono ?_
  rintro e w' ⟨v, lim', X', he, hst, hol, hr, hd, hin, hgh⟩
  refine ⟨v, lim', X', he, hst.wider fun b ⟨i, k, hb⟩ => ⟨i, k, hX2 i k b hb⟩, by rw [hol, ha.1], fun i => by (rw [ha.1]; exact hr i), hd, fun i k b hb => ?_, fun i hi => ?_⟩
  · obtain ⟨m1, m2⟩ := hin i k b hb
    exact ⟨m1, m2.imp (fun ⟨i, k, h⟩ => ⟨i, k, hX2 i k b h⟩) id⟩
  · obtain ⟨m1, m2⟩ := hgh i hi
    exact ⟨slotsW_G ha m1, by rw [m2, g3 i (isG_isB m1)]⟩

end Go.AM
end

section
namespace Go.AM

def Fill (ρ : Nat → V) (n : Nat) (l : List V) : Prop := ∀ (j : Nat) (v : V), l[j]? = some v → ρ (n + j) = v

theorem Fill.tail {ρ : Nat → V} {n : Nat} {v : V} {l : List V} (h : Fill ρ n (v :: l)) : ρ n = v ∧ Fill ρ (n + 1) l :=
  ⟨h 0 v rfl, fun j u hj => by rw [show n + 1 + j = n + (j + 1) by omega]; exact h (j + 1) u (by simpa using hj)⟩

theorem Fill.app {ρ : Nat → V} {n : Nat} {l l' : List V} (h : Fill ρ n (l ++ l')) : Fill ρ n l ∧ Fill ρ (n + l.length) l' :=
  ⟨fun j v hj => h j v (by rw [List.getElem?_append_left (List.getElem?_eq_some_iff.1 hj).1]; exact hj),
   fun j v hj => by
    rw [show n + l.length + j = n + (l.length + j) by omega]
    exact h _ v (by rw [List.getElem?_append_right (by omega)]; simpa using hj)⟩

theorem Fill.bind (ρ : Nat → V) (n : Nat) (vs : List V) : Fill (bind ρ n vs) n vs := by
  intro j v hj
  unfold AM.bind
  rw [if_neg (by omega), show n + j - n = j by omega, hj]
  rfl

def vAt (us : List V) (j : Nat) : V := (us[j]?).getD (.i 0)

def shDen : Sh → V → AV
  | .int k, v => .val (.int k v.int)
  | .bool, v => .val (.bool v.bool)
  | .str, v => .val (.string v.str)
  | .slice s, v => .slice false s v.list
  | .own e, v => .own e v.list

def shsDen : List Sh → List V → Nat → List AV
  | [], _, _ => []
  | s :: ss, us, j => shDen s (vAt us j) :: shsDen ss us (j + 1)

theorem shDen_cell {s : Sh} (h : s.imm = true) (v : V) : (shDen s v).isCell = true := by cases s <;> simp [Sh.imm] at h <;> rfl

theorem vAt_mid (pre post : List V) (v : V) : vAt (pre ++ v :: post) pre.length = v := by simp [vAt]

theorem shsDen_len : ∀ (l : List Sh) (us : List V) (j : Nat), (shsDen l us j).length = l.length
  | [], _, _ => rfl
  | _ :: ss, us, j => by simp [shsDen, shsDen_len ss us (j + 1)]

theorem shsDen_cell : ∀ (l : List Sh) (us : List V) (j : Nat), l.all Sh.imm = true → ∀ c ∈ shsDen l us j, c.isCell = true
  | [], _, _, _ => by simp [shsDen]
  | s :: ss, us, j, h => by
    rw [List.all_cons, Bool.and_eq_true] at h
    intro c hc
    rcases List.mem_cons.1 hc with rfl | hc
    · exact shDen_cell h.1 _
    · exact shsDen_cell ss us (j + 1) h.2 c hc

section
variable {P : Program} {ρ : Nat → V}

theorem retC_ok {s : Sh} {x : SC} {v : VE} (h : retC s x = some v) : CellW P (x.den ρ) (shDen s (v.den ρ)) := by
  unfold retC at h
  split at h
  · split at h
    · simp only [Option.some.injEq] at h; subst h; rename_i hk; subst hk; exact .same (.inl rfl)
    · cases h
  · simp only [Option.some.injEq] at h; subst h; exact .same (.inl rfl)
  · simp only [Option.some.injEq] at h; subst h; exact .same (.inl rfl)
  · split at h
    · simp only [Option.some.injEq] at h; subst h; rename_i hk; subst hk; exact .imm
    · split at h
      · simp only [Option.some.injEq] at h; subst h; exact .immN
      · cases h
  · split at h
    · simp only [Option.some.injEq] at h; subst h; exact .give
    · cases h
  · cases h

theorem retOwn_ok {s : Sh} {e : TypeId} {l : LE} {v : VE} (h : retOwn P s e l = some v) : CellW P (.own e (l.den ρ)) (shDen s (v.den ρ)) := by
  unfold retOwn at h
  split at h
  · split at h
    · simp only [Option.some.injEq] at h; subst h; rename_i hk; subst hk; exact .same (.inr ⟨_, _, rfl⟩)
    · cases h
  · split at h
    · simp only [Option.some.injEq] at h; subst h; rename_i hk; subst hk; exact .own
    · cases h
  · cases h

theorem retCs_ok : ∀ (l : List Sh) (cs : List SC) (vs : List VE), retCs l cs = some vs → vs.length = l.length ∧ cs.length = l.length ∧ ∀ pre post : List V,
    ∀ (i : Nat) (c c' : AV), (cs.map (SC.den ρ))[i]? = some c → (shsDen l (pre ++ vs.map (VE.den ρ) ++ post) pre.length)[i]? = some c' → CellW P c c'
  | [], [], vs, h => by
    simp only [retCs, Option.some.injEq] at h
    subst h
    exact ⟨rfl, rfl, fun _ _ i c c' h => by simp at h⟩
  | [], _ :: _, _, h => by simp [retCs] at h
  | _ :: _, [], _, h => by simp [retCs] at h
  | s :: ss, c :: cs, us, h => by
    simp only [retCs] at h
    split at h
    · rename_i v vs hv hvs
      simp only [Option.some.injEq] at h
      subst h
      obtain ⟨h1, h2, h3⟩ := retCs_ok ss cs vs hvs
      refine ⟨by simp [h1], by simp [h2], fun pre post i c1 c2 hc1 hc2 => ?_⟩
      cases i with
      | zero =>
        simp only [shsDen, List.map_cons, List.getElem?_cons_zero, Option.some.injEq] at hc1 hc2
        subst hc1
        subst hc2
        rw [List.append_assoc, List.cons_append, vAt_mid]
        exact retC_ok hv
      | succ i =>
        have := h3 (pre ++ [v.den ρ]) post i c1 c2 (by simpa using hc1)
        simp only [List.append_assoc, List.cons_append, List.nil_append, List.length_append, List.length_cons, List.length_nil] at this
        simp only [shsDen, List.map_cons, List.getElem?_cons_succ, List.append_assoc, List.cons_append] at hc2
        exact this hc2
    · cases h

theorem retB_ok {s : Sh} {x : BC} {v : VE} (h : retB P s x = some v) : CellW P (x.den ρ) (shDen s (v.den ρ)) := by
  unfold retB at h
  split at h
  · exact retC_ok h
  · exact retOwn_ok h
  · cases h

theorem retBs_ok : ∀ (l : List Sh) (cs : List BC) (vs : List VE), retBs P l cs = some vs → vs.length = l.length ∧ cs.length = l.length ∧ ∀ pre post : List V,
    ∀ (i : Nat) (c c' : AV), (cs.map (BC.den ρ))[i]? = some c → (shsDen l (pre ++ vs.map (VE.den ρ) ++ post) pre.length)[i]? = some c' → CellW P c c'
  | [], [], vs, h => by
    simp only [retBs, Option.some.injEq] at h
    subst h
    exact ⟨rfl, rfl, fun _ _ i c c' h => by simp at h⟩
  | [], _ :: _, _, h => by simp [retBs] at h
  | _ :: _, [], _, h => by simp [retBs] at h
  | s :: ss, c :: cs, us, h => by
    simp only [retBs] at h
    split at h
    · rename_i v vs hv hvs
      simp only [Option.some.injEq] at h
      subst h
      obtain ⟨h1, h2, h3⟩ := retBs_ok ss cs vs hvs
      refine ⟨by simp [h1], by simp [h2], fun pre post i c1 c2 hc1 hc2 => ?_⟩
      cases i with
      | zero =>
        simp only [shsDen, List.map_cons, List.getElem?_cons_zero, Option.some.injEq] at hc1 hc2
        subst hc1
        subst hc2
        rw [List.append_assoc, List.cons_append, vAt_mid]
        exact retB_ok hv
      | succ i =>
        have := h3 (pre ++ [v.den ρ]) post i c1 c2 (by simpa using hc1)
        simp only [List.append_assoc, List.cons_append, List.nil_append, List.length_append, List.length_cons, List.length_nil] at this
        simp only [shsDen, List.map_cons, List.getElem?_cons_succ, List.append_assoc, List.cons_append] at hc2
        exact this hc2
    · cases h


end

theorem shDen_right (s : Sh) (v : V) : (shDen s v).isCell = true ∨ ∃ e xs, shDen s v = .own e xs := by
  cases s
  · exact .inl rfl
  · exact .inl rfl
  · exact .inl rfl
  · exact .inl rfl
  · exact .inr ⟨_, _, rfl⟩

theorem shsDen_right : ∀ (l : List Sh) (us : List V) (j : Nat), ∀ c ∈ shsDen l us j, c.isCell = true ∨ ∃ e xs, c = .own e xs
  | [], _, _ => by simp [shsDen]
  | s :: ss, us, j => by
    intro c hc
    rcases List.mem_cons.1 hc with rfl | hc
    · exact shDen_right _ _
    · exact shsDen_right ss us (j + 1) c hc


theorem shapeAt_sh {s : Sh} (hs : s.imm = true) {n : Nat} {ρ : Nat → V} {v : V} (h : ρ n = v) : (shapeAt s n).den ρ = shDen s v := by
  subst h
  cases s <;> simp [Sh.imm] at hs <;> rfl

theorem shapesAt_sh : ∀ (l : List Sh) (n m : Nat) (ρ : Nat → V) (us : List V), l.all Sh.imm = true → (∀ j, j < l.length → ρ (n + j) = vAt us (m + j)) → (shapesAt l n).map (SC.den ρ) = shsDen l us m
  | [], _, _, _, _, _, _ => rfl
  | s :: ss, n, m, ρ, us, hi, h => by
    rw [List.all_cons, Bool.and_eq_true] at hi
    rw [shapesAt, List.map_cons, shsDen, shapeAt_sh hi.1 (show ρ n = vAt us m from h 0 (by simp)), shapesAt_sh ss (n + 1) (m + 1) ρ us hi.2 fun j hj => by
      have := h (j + 1) (by simp; omega)
      rw [show n + 1 + j = n + (j + 1) by omega, show m + 1 + j = m + (j + 1) by omega]
      exact this]

theorem boxAt_sh {s : Sh} {n : Nat} {ρ : Nat → V} {v : V} (h : ρ n = v) : (boxAt s n).den ρ = shDen s v := by
  subst h
  cases s <;> rfl

theorem boxesAt_sh : ∀ (l : List Sh) (n m : Nat) (ρ : Nat → V) (us : List V), (∀ j, j < l.length → ρ (n + j) = vAt us (m + j)) → (boxesAt l n).map (BC.den ρ) = shsDen l us m
  | [], _, _, _, _, _ => rfl
  | s :: ss, n, m, ρ, us, h => by
    rw [boxesAt, List.map_cons, shsDen, boxAt_sh (show ρ n = vAt us m from h 0 (by simp)), boxesAt_sh ss (n + 1) (m + 1) ρ us fun j hj => by
      have := h (j + 1) (by simp; omega)
      rw [show n + 1 + j = n + (j + 1) by omega, show m + 1 + j = m + (j + 1) by omega]
      exact this]

def hpDen (h : HP) (us : List V) (j : Nat) : AV :=
  match h with
  | .c s => shDen s (vAt us j)
  | .agg l => .agg (shsDen l us j)
  | .box l => .box (shsDen l us j)
  | .row e => .box [.row e (vAt us j).int.toNat (vAt us (j + 1)).int.toNat (vAt us (j + 2)).list]
  | .mref d => .mref d
  | .ptr d o => .ptr d o
  | .dead => .dead
  | .gbox l => .gbox (shsDen l us j)
  | .clo g ds => .clo g ds

def HP.fine : HP → Bool
  | .agg l => l.all Sh.imm
  | _ => true

theorem hpAt_sh {h : HP} (hf : h.fine = true) {n m : Nat} {ρ : Nat → V} {us : List V} (hρ : ∀ j, j < h.n → ρ (n + j) = vAt us (m + j)) : (hpAt h n).den ρ = hpDen h us m := by
  cases h with
  | c s =>
    have h0 := hρ 0 (Nat.zero_lt_one)
    simp only [Nat.add_zero] at h0
    cases s <;> simp only [hpAt, hpDen, SV.den, shapeAt, SC.den, IE.den, BE.den, SE.den, LE.den, h0, shDen]
  | agg l => simp only [hpAt, hpDen, SV.den, shapesAt_sh l n m ρ us hf hρ]
  | box l => simp only [hpAt, hpDen, SV.den, boxesAt_sh l n m ρ us hρ]
  | gbox l => simp only [hpAt, hpDen, SV.den, boxesAt_sh l n m ρ us hρ]
  | clo g ds => rfl
  | row e =>
    have h0 := hρ 0 (by simp [HP.n])
    have h1 := hρ 1 (by simp [HP.n])
    have h2 := hρ 2 (by simp [HP.n])
    simp only [Nat.add_zero] at h0
    simp only [hpAt, hpDen, SV.den, List.map_cons, List.map_nil, BC.den, IE.den, LE.den, h0, h1, h2]
  | mref d => rfl
  | ptr d o => rfl
  | dead => rfl

/-- What refers to a box. -/
def RefW (h : HP) (x : AV) : Prop := (∃ d o, h = .ptr d o ∧ x = .ptr d o) ∨ (∃ d, h = .mref d ∧ x = .mref d) ∨ ∃ g ds, h = .clo g ds ∧ x = .clo g ds

theorem hpVals_ok {P : Program} {ρ : Nat → V} {h : HP} {x : SV} {vs : List VE} (hv : hpVals P h x = some vs) : vs.length = h.n ∧ h.fine = true ∧ ∀ pre post : List V,
    RefW h (x.den ρ) ∨ SlotW P (x.den ρ) (hpDen h (pre ++ vs.map (VE.den ρ) ++ post) pre.length) := by
  unfold hpVals at hv
  split at hv
  · cases hd : retC _ _ with
    | none => rw [hd] at hv; cases hv
    | some v =>
      rw [hd] at hv
      simp only [Option.map_some, Option.some.injEq] at hv
      subst hv
      refine ⟨rfl, rfl, fun pre post => .inr ?_⟩
      simp only [hpDen, List.map_cons, List.map_nil, List.append_assoc, List.cons_append, List.nil_append, vAt_mid]
      exact .comp (.cell (retC_ok hd))
  · cases hd : retOwn P _ _ _ with
    | none => rw [hd] at hv; cases hv
    | some v =>
      rw [hd] at hv
      simp only [Option.map_some, Option.some.injEq] at hv
      subst hv
      refine ⟨rfl, rfl, fun pre post => .inr ?_⟩
      simp only [hpDen, List.map_cons, List.map_nil, List.append_assoc, List.cons_append, List.nil_append, vAt_mid]
      exact .comp (.cell (retOwn_ok hd))
  · split at hv
    · rename_i hi
      obtain ⟨h1, h2, h3⟩ := retCs_ok (P := P) (ρ := ρ) _ _ _ hv
      exact ⟨h1, hi, fun pre post => .inr (.comp (.agg (by rw [List.length_map, h2, shsDen_len]) (shsDen_cell _ _ _ hi) (h3 pre post)))⟩
    · cases hv
  · obtain ⟨h1, h2, h3⟩ := retBs_ok (P := P) (ρ := ρ) _ _ _ hv
    exact ⟨h1, rfl, fun pre post => .inr (.box (by rw [List.length_map, h2, shsDen_len]) (h3 pre post))⟩
  · split at hv
    · rename_i hh
      simp only [Option.some.injEq] at hv
      subst hv
      subst hh
      refine ⟨rfl, rfl, fun pre post => .inr ?_⟩
      have e0 : ∀ (a b c : V), vAt (pre ++ [a, b, c] ++ post) pre.length = a ∧ vAt (pre ++ [a, b, c] ++ post) (pre.length + 1) = b ∧ vAt (pre ++ [a, b, c] ++ post) (pre.length + 2) = c := by
        intro a b c
        refine ⟨?_, ?_, ?_⟩ <;> simp [vAt]
      simp only [hpDen, List.map_cons, List.map_nil, (e0 _ _ _).1, (e0 _ _ _).2.1, (e0 _ _ _).2.2]
      exact .row
    · cases hv
  · split at hv
    · rename_i hh
      simp only [Option.some.injEq] at hv
      subst hv
      subst hh
      exact ⟨rfl, rfl, fun _ _ => .inl (.inr (.inl ⟨_, rfl, rfl⟩))⟩
    · cases hv
  · split at hv
    · rename_i hh
      simp only [Option.some.injEq] at hv
      subst hv
      obtain ⟨rfl, rfl⟩ := hh
      exact ⟨rfl, rfl, fun _ _ => .inl (.inl ⟨_, _, rfl, rfl⟩)⟩
    · cases hv
  · simp only [Option.some.injEq] at hv
    subst hv
    exact ⟨rfl, rfl, fun _ _ => .inr .dead⟩
  · obtain ⟨h1, h2, h3⟩ := retBs_ok (P := P) (ρ := ρ) _ _ _ hv
    exact ⟨h1, rfl, fun pre post => .inr (.gbox (by rw [List.length_map, h2, shsDen_len]) (h3 pre post))⟩
  · split at hv
    · rename_i hh
      simp only [Option.some.injEq] at hv
      subst hv
      obtain ⟨rfl, rfl⟩ := hh
      exact ⟨rfl, rfl, fun _ _ => .inl (.inr (.inr ⟨_, _, rfl, rfl⟩))⟩
    · cases hv
  · cases hv

/-- The slots of a head, each with its place among the values. -/
theorem headVals_at {P : Program} {g : Nat → SV} {ρ : Nat → V} : ∀ (hs : List (Nat × HP)) (n : Nat) (ves : List VE) (pre : List V), headVals P g hs = some ves → pre.length = n →
    (headUps hs n).2 = n + ves.length ∧ (headUps hs n).1.map (·.1) = hs.map (·.1) ∧ ∀ u ∈ (headUps hs n).1, ∃ h, (u.1, h) ∈ hs ∧ ∃ m, u.2 = hpAt h m ∧ m + h.n ≤ n + ves.length ∧ h.fine = true ∧
      ∀ post : List V, RefW h ((g u.1).den ρ) ∨ SlotW P ((g u.1).den ρ) (hpDen h (pre ++ ves.map (VE.den ρ) ++ post) m)
  | [], n, ves, pre, h, hp => by
    simp only [headVals, Option.some.injEq] at h
    subst h
    exact ⟨rfl, rfl, by simp [headUps]⟩
  | p :: r, n, ves, pre, h, hp => by
    simp only [headVals] at h
    split at h
    · rename_i v vs hv hvs
      simp only [Option.some.injEq] at h
      subst h
      obtain ⟨h1, h2, h3⟩ := hpVals_ok (P := P) (ρ := ρ) hv
      obtain ⟨g1, g2, g3⟩ := headVals_at r (n + p.2.n) vs (pre ++ v.map (VE.den ρ)) hvs (by simp [hp, h1])
      refine ⟨by simp only [headUps, g1, List.length_append, h1]; omega, by simp only [headUps, List.map_cons, g2], fun u hu => ?_⟩
      simp only [headUps, List.mem_cons] at hu
      rcases hu with rfl | hu
      · refine ⟨p.2, by simp, n, rfl, by simp only [List.length_append, h1]; omega, h2, fun post => ?_⟩
        have := h3 pre (vs.map (VE.den ρ) ++ post)
        rw [hp] at this
        simpa [List.append_assoc] using this
      · obtain ⟨h, k1, m, k2, k3, k4, k5⟩ := g3 u hu
        refine ⟨h, by simp [k1], m, k2, by simp only [List.length_append, h1]; omega, k4, fun post => ?_⟩
        have := k5 post
        simpa [List.append_assoc] using this
    · cases h

theorem headUps_bd : ∀ (hs : List (Nat × HP)) (n : Nat), n ≤ (headUps hs n).2 ∧ ∀ u ∈ (headUps hs n).1, u.2.bd (headUps hs n).2
  | [], n => ⟨Nat.le_refl _, by simp [headUps]⟩
  | p :: r, n => by
    obtain ⟨h1, h2⟩ := headUps_bd r (n + p.2.n)
    refine ⟨by simp only [headUps]; omega, fun u hu => ?_⟩
    simp only [headUps, List.mem_cons] at hu
    rcases hu with rfl | hu
    · have hb : (hpAt p.2 n).bd (n + p.2.n) := by
        cases hp : p.2 with
        | c s => cases s <;> exact Nat.lt_succ_self n
        | agg l => exact shapesAt_bd l n
        | box l => exact boxesAt_bd l n
        | row e =>
          intro c hc
          rw [List.mem_singleton.1 hc]
          exact ⟨by show n < n + 3; omega, by show n + 1 < n + 3; omega, by show n + 2 < n + 3; omega⟩
        | mref d => trivial
        | ptr d o => trivial
        | dead => trivial
        | gbox l => exact boxesAt_bd l n
        | clo g ds => trivial
      exact SV.bd_mono (by simpa [headUps] using h1) _ hb
    · exact h2 u hu

/-- What becomes of a slot that is seen as less. -/
def HeadW (P : Program) (σ σ' : Nat → AV) (d : Nat) : Prop :=
  SlotW P (σ d) (σ' d) ∨ (∃ d' o, σ d = .ptr d' o ∧ σ' d = .ptr d' o ∧ (∃ cs, σ' d' = .box cs)) ∨ (∃ d', σ d = .mref d' ∧ σ' d = .mref d' ∧ (∃ cs, σ' d' = .box cs)) ∨
    ∃ g ds, σ d = .clo g ds ∧ σ' d = .clo g ds ∧ ∀ d' ∈ ds, (σ' d').isB = true

theorem slotW_row {P : Program} {e : TypeId} {n cap : Nat} {xs : List (List AV)} {cs : List AV} (h : SlotW P (.box [.row e n cap xs]) (.box cs)) : cs = [.row e n cap xs] := by
  cases h with
  | comp hw => have := compW_right hw; cases this
  | row => rfl
  | box hl hp => exact (noRow_left hl hp (.row e n cap xs) (by simp) _ _ _ _ rfl).elim

theorem slotW_box {P : Program} {x : AV} {cs : List AV} (h : SlotW P x (.box cs)) : ∃ cs0, x = .box cs0 := by
  cases h with
  | comp hw => have := compW_right hw; cases this
  | row => exact ⟨_, rfl⟩
  | box _ _ => exact ⟨_, rfl⟩

theorem Sim.head {c : Ctx} {σ σ' : Nat → AV} {tm : Array Value} {w : World} {lim : Nat → Nat} {X : Nat → Nat → Option Nat} (h : Sim c σ tm w lim X) (hw : ∀ d, HeadW c.P σ σ' d) (hout : ∀ d, c.nt ≤ d → σ' d = .dead ∨ (σ' d).isG = true)
    (hpin : ∀ d v, c.pin d = some v → ∃ cs, σ' d = .box cs) (hgpin : ∀ d b, c.gpin d = some b → (σ' d).isG = true) : ∃ X', Sim c σ' tm w lim X' := by
  have hG : ∀ d, (σ' d).isG = true → (σ d).isG = true := by
    intro d hd
    rcases hw d with hs | ⟨d', o, _, h2, _⟩ | ⟨d', _, h2, _⟩ | ⟨g, ds, _, h2, _⟩
    · exact slotW_G hs hd
    · rw [h2] at hd; cases hd
    · rw [h2] at hd; cases hd
    · rw [h2] at hd; cases hd
  have key : ∀ d, ∃ r : Nat → Option Nat, (∀ k, r k = X d k ∨ r k = none) ∧ ((σ' d).isB = true → r 0 = X d 0) ∧
      (SlotW c.P (σ d) (σ' d) → ∀ X' : Nat → Nat → Option Nat, X' d = r → SlotR c.P w lim X' σ' d (σ' d) (tm.getD d undef)) := by
    intro d
    have hd := h.rel d
    rcases hw d with hs | ⟨d', o, h1, h2, _⟩ | ⟨d', h1, h2, _⟩ | ⟨g, ds, h1, h2, _⟩
    · obtain ⟨r, g1, g2, g3⟩ := slot_weak hd hs
      exact ⟨r, g1, g2, fun _ X' hX => g3 X' σ' d hX⟩
    · exact ⟨fun _ => none, fun _ => .inr rfl, fun hb => by (rw [h2] at hb; cases hb), fun hs => ((slotW_no hs).1 d' o h2).elim⟩
    · exact ⟨fun _ => none, fun _ => .inr rfl, fun hb => by (rw [h2] at hb; cases hb), fun hs => ((slotW_no hs).2.1 d' h2).elim⟩
    · exact ⟨fun _ => none, fun _ => .inr rfl, fun hb => by (rw [h2] at hb; cases hb), fun hs => ((slotW_no hs).2.2 g ds h2).elim⟩
  obtain ⟨X', hX⟩ := Classical.axiomOfChoice key
  have hle : ∀ d k b, X' d k = some b → X d k = some b := by
    intro d k b hb
    rcases (hX d).1 k with e | e
    · rw [← e]; exact hb
    · rw [e] at hb; cases hb
  refine ⟨X', ⟨fun d => ?_, h.size, hout, fun d hd => h.ghost d (hG d hd), fun d k d' k' b h1 h2 => h.dist d k d' k' b (hle _ _ _ h1) (hle _ _ _ h2), fun d k b hb => h.ours d k b (hle _ _ _ hb), h.frm, fun d v hv => ⟨(h.pin d v hv).1, hpin d v hv⟩,
    fun d b hb => ⟨((hX d).2.1 (isG_isB (hgpin d b hb))).trans (h.gpin d b hb).1, hgpin d b hb⟩⟩⟩
  have hd := h.rel d
  rcases hw d with hs | ⟨d2, o2, h1, h2, cs', h3⟩ | ⟨d2, h1, h2, cs', h3⟩ | ⟨g, ds, h1, h2, h3⟩
  · exact (hX d).2.2 hs X' rfl
  · rw [h1] at hd
    obtain ⟨b, cs, g1, g2, g3⟩ := hd
    rw [h2]
    exact ⟨b, cs', by rw [(hX d2).2.1 (by rw [h3]; rfl), g1], h3, g3⟩
  · rw [h1] at hd
    obtain ⟨b, e, n, cap, xs, g1, g2, g3⟩ := hd
    have hcs : cs' = [.row e n cap xs] := by
      rcases hw d2 with hs | ⟨d3, o3, k1, k2, _⟩ | ⟨d3, k1, k2, _⟩ | ⟨g, ds, k1, k2, _⟩
      · rw [g2, h3] at hs; exact slotW_row hs
      · rw [g2] at k1; cases k1
      · rw [g2] at k1; cases k1
      · rw [g2] at k1; cases k1
    rw [h2]
    exact ⟨b, e, n, cap, xs, by rw [(hX d2).2.1 (by rw [h3]; rfl), g1], by rw [h3, hcs], g3⟩
  · rw [h1] at hd
    obtain ⟨bs, g1, g2, g3⟩ := hd
    rw [h2]
    refine ⟨bs, g1, g2, fun i d' b hd' hb => ?_⟩
    have hB := h3 d' (List.mem_of_getElem? hd')
    exact ⟨((hX d').2.1 hB).trans (g3 i d' b hd' hb).1, hB⟩

end Go.AM
end

section
namespace Go.AM

theorem key_one : ∀ (hs : List (Nat × HP)) (d : Nat) (h h' : HP), (hs.map (·.1)).Nodup → (d, h) ∈ hs → (d, h') ∈ hs → h = h'
  | [], _, _, _, _, h, _ => by simp at h
  | p :: r, d, h, h', hn, h1, h2 => by
    rw [List.map_cons, List.nodup_cons] at hn
    rcases List.mem_cons.1 h1 with e1 | e1
    · rcases List.mem_cons.1 h2 with e2 | e2
      · rw [← e1] at e2
        exact (Prod.mk.inj e2).2.symm
      · exact (hn.1 (by rw [← e1]; exact List.mem_map.2 ⟨_, e2, rfl⟩)).elim
    · rcases List.mem_cons.1 h2 with e2 | e2
      · exact (hn.1 (by rw [← e2]; exact List.mem_map.2 ⟨_, e1, rfl⟩)).elim
      · exact key_one r d h h' hn.2 e1 e2

theorem lastV_mem : ∀ (us : List (Nat × AV)) (d : Nat) (x : AV), lastV us d = some x → (d, x) ∈ us
  | [], d, x, h => by simp [lastV] at h
  | (e, y) :: us, d, x, h => by
    simp only [lastV] at h
    cases hl : lastV us d with
    | some z =>
      rw [hl] at h
      simp only [Option.some.injEq] at h
      subst h
      exact List.mem_cons_of_mem _ (lastV_mem us d _ hl)
    | none =>
      rw [hl] at h
      simp only at h
      split at h
      · rename_i hd
        simp only [Option.some.injEq] at h
        subst h
        subst hd
        exact List.mem_cons_self
      · cases h

theorem place_spec {E : Env} {d : Nat} {h : HP} (hp : h.place E d = true) : d < E.top ∧ (h.isG = true ∨ d < E.nt) := by
  cases h <;> simp only [HP.place, Bool.and_eq_true, decide_eq_true_eq] at hp
  case gbox l => exact ⟨hp.2, .inl rfl⟩
  all_goals exact ⟨lt_top hp, .inr hp⟩

theorem headOk_spec {E : Env} {hs : List (Nat × HP)} (h : headOk E hs = true) : (hs.map (·.1)).Nodup ∧ (∀ p ∈ hs, p.1 < E.top ∧ (p.2.isG = true ∨ p.1 < E.nt)) ∧ (∀ d d' h, (d, h) ∈ hs → (∃ o, h = HP.ptr d' o) ∨ h = HP.mref d' → ∃ l : HP, l.isBox = true ∧ (d', l) ∈ hs) ∧
    (∀ d ∈ E.pins, ∃ l : HP, l.isBox = true ∧ (d, l) ∈ hs) ∧ (∀ d g ds, (d, HP.clo g ds) ∈ hs → ∀ d' ∈ ds, ∃ l : HP, (l.isBox || l.isG) = true ∧ (d', l) ∈ hs) ∧ ∀ d, E.nt ≤ d → d < E.top → ∃ l : HP, l.isG = true ∧ (d, l) ∈ hs := by
  have hany : ∀ (f : HP → Bool) (d : Nat), (hs.any fun q => decide (q.1 = d) && f q.2) = true → ∃ l : HP, f l = true ∧ (d, l) ∈ hs := by
    intro f d hd
    rw [List.any_eq_true] at hd
    obtain ⟨q, hq, hd⟩ := hd
    obtain ⟨q1, q2⟩ := q
    simp only [Bool.and_eq_true, decide_eq_true_eq] at hd
    obtain ⟨rfl, hd⟩ := hd
    exact ⟨_, hd, hq⟩
  simp only [headOk, Bool.and_eq_true] at h
  obtain ⟨⟨⟨h1, h2⟩, h3⟩, h4⟩ := h
  rw [List.all_eq_true] at h2 h3 h4
  refine ⟨nodupB_ok _ h1, fun p hp => ?_, fun d d' h hm hh => ?_, fun d hd => hany HP.isBox d (h3 d hd), fun d g ds hm d' hd' => ?_, fun d hd hd' => ?_⟩
  · have := h2 p hp
    simp only [Bool.and_eq_true] at this
    exact place_spec this.1
  · have := h2 _ hm
    simp only [Bool.and_eq_true] at this
    rcases hh with ⟨o, rfl⟩ | rfl
    · exact hany HP.isBox d' this.2
    · exact hany HP.isBox d' this.2
  · have := h2 _ hm
    simp only [Bool.and_eq_true] at this
    have h5 := this.2
    rw [List.all_eq_true] at h5
    exact hany (fun h => h.isBox || h.isG) d' (h5 d' hd')
  · have := h4 (d - E.nt) (List.mem_range.2 (by have : E.top = E.nt + E.ng := rfl; omega))
    rw [show E.nt + (d - E.nt) = d by omega] at this
    exact hany HP.isG d this

theorem head_at {P : Program} {E : Env} (hnt : E.top ≤ 1024) {hs : List (Nat × HP)} (hok : headOk E hs = true) {s : Tr} {ρ ρ0 : Nat → V} {ves : List VE} (hv : headVals P (gE E s) hs = some ves) :
    (∀ d, d ∉ hs.map (·.1) → sden E (applyU (headUps hs 0).1 (.leaf .dead)) (bind ρ0 0 (ves.map (VE.den ρ))) d = .dead) ∧
    ∀ d h, (d, h) ∈ hs → ∃ m, sden E (applyU (headUps hs 0).1 (.leaf .dead)) (bind ρ0 0 (ves.map (VE.den ρ))) d = hpDen h (ves.map (VE.den ρ)) m ∧
      (RefW h (sden E s ρ d) ∨ SlotW P (sden E s ρ d) (hpDen h (ves.map (VE.den ρ)) m)) := by
  obtain ⟨k1, k2, k3, k4, k5, k6⟩ := headOk_spec hok
  obtain ⟨h1, h2, h3⟩ := headVals_at (P := P) (g := gE E s) (ρ := ρ) hs 0 ves [] hv rfl
  have hl : usLow E (headUps hs 0).1 := by
    unfold usLow
    rw [List.all_eq_true]
    intro u hu
    have hm : u.1 ∈ hs.map (·.1) := by rw [← h2]; exact List.mem_map.2 ⟨u, hu, rfl⟩
    obtain ⟨p, hp, he⟩ := List.mem_map.1 hm
    have := (k2 p hp).1
    rw [he] at this
    simpa using this
  have hdead : ∀ d, sden E (.leaf .dead) (bind ρ0 0 (ves.map (VE.den ρ))) d = .dead := by
    intro d
    simp only [sden, gE]
    split <;> rfl
  have hfst : ((headUps hs 0).1.map fun u => (u.1, u.2.den (bind ρ0 0 (ves.map (VE.den ρ))))).map (·.1) = hs.map (·.1) := by rw [List.map_map]; exact h2
  rw [sden_applyU hnt _ _ _ hl]
  refine ⟨fun d hd => ?_, fun d h hm => ?_⟩
  · rw [updL_last, lastV_none _ d (by rw [hfst]; exact hd), hdead]
    rfl
  · obtain ⟨x, hx⟩ := lastV_some ((headUps hs 0).1.map fun u => (u.1, u.2.den (bind ρ0 0 (ves.map (VE.den ρ))))) d (by rw [hfst]; exact List.mem_map.2 ⟨_, hm, rfl⟩)
    obtain ⟨u, hu, he⟩ := List.mem_map.1 (lastV_mem _ _ _ hx)
    simp only [Prod.mk.injEq] at he
    obtain ⟨rfl, rfl⟩ := he
    obtain ⟨h', g1, m, g2, g3, g4, g5⟩ := h3 u hu
    have : h' = h := key_one hs u.1 h' h k1 g1 hm
    subst this
    have hden : u.2.den (bind ρ0 0 (ves.map (VE.den ρ))) = hpDen h' (ves.map (VE.den ρ)) m := by
      rw [g2]
      refine hpAt_sh g4 fun j hj => ?_
      have hlt : m + j < (ves.map (VE.den ρ)).length := by rw [List.length_map]; omega
      have := Fill.bind ρ0 0 (ves.map (VE.den ρ)) (m + j) _ (List.getElem?_eq_getElem hlt)
      rw [Nat.zero_add] at this
      rw [this, vAt, List.getElem?_eq_getElem hlt]
      rfl
    refine ⟨m, ?_, ?_⟩
    · rw [updL_last, hx, ← hden]
      rfl
    · have := g5 []
      simp only [List.nil_append, List.append_nil] at this
      exact this

theorem head_sim {P : Program} {E : Env} (hnt : E.top ≤ 1024) {c : Ctx} (hcP : c.P = P) (hcn : c.nt = E.nt) (hpin : ∀ d v, c.pin d = some v → d ∈ E.pins) (hgpin : ∀ d b, c.gpin d = some b → E.nt ≤ d ∧ d < E.top) {hs : List (Nat × HP)} (hok : headOk E hs = true) {s : Tr} {ρ : Nat → V} (ρ0 : Nat → V) {ves : List VE}
    (hv : headVals P (gE E s) hs = some ves) {tm : Array Value} {w : World} {lim : Nat → Nat} {X : Nat → Nat → Option Nat} (hsim : Sim c (sden E s ρ) tm w lim X) :
    ∃ X', Sim c (sden E (applyU (headUps hs 0).1 (.leaf .dead)) (bind ρ0 0 (ves.map (VE.den ρ)))) tm w lim X' := by
  obtain ⟨k1, k2, k3, k4, k5, k6⟩ := headOk_spec hok
  obtain ⟨h1, h2⟩ := head_at (P := P) hnt hok (ρ0 := ρ0) (ρ := ρ) hv
  have hbox : ∀ d (l : HP), l.isBox = true → (d, l) ∈ hs → ∃ cs, sden E (applyU (headUps hs 0).1 (.leaf .dead)) (bind ρ0 0 (ves.map (VE.den ρ))) d = .box cs := by
    intro d l hl hm
    obtain ⟨m, g1, _⟩ := h2 d _ hm
    cases l <;> simp [HP.isBox] at hl <;> exact ⟨_, g1⟩
  have hgb : ∀ d (l : HP), l.isG = true → (d, l) ∈ hs → (sden E (applyU (headUps hs 0).1 (.leaf .dead)) (bind ρ0 0 (ves.map (VE.den ρ))) d).isG = true := by
    intro d l hl hm
    obtain ⟨m, g1, _⟩ := h2 d _ hm
    rw [g1]
    cases l <;> simp [HP.isG] at hl <;> rfl
  refine hsim.head (fun d => ?_) (fun d hd => ?_) (fun d v hp => ?_) fun d b hp => ?_
  · by_cases hm : d ∈ hs.map (·.1)
    · obtain ⟨p, hp, rfl⟩ := List.mem_map.1 hm
      obtain ⟨m, g1, g2⟩ := h2 p.1 p.2 hp
      unfold HeadW
      rw [g1, hcP]
      rcases g2 with (⟨d', o, g2, g3⟩ | ⟨d', g2, g3⟩ | ⟨g, ds, g2, g3⟩) | g2
      · obtain ⟨l, hl, hm⟩ := k3 p.1 d' p.2 hp (.inl ⟨o, g2⟩)
        exact .inr (.inl ⟨d', o, g3, by rw [g2]; rfl, hbox d' l hl hm⟩)
      · obtain ⟨l, hl, hm⟩ := k3 p.1 d' p.2 hp (.inr g2)
        exact .inr (.inr (.inl ⟨d', g3, by rw [g2]; rfl, hbox d' l hl hm⟩))
      · refine .inr (.inr (.inr ⟨g, ds, g3, by rw [g2]; rfl, fun d' hd' => ?_⟩))
        obtain ⟨l, hl, hm⟩ := k5 p.1 g ds (by rw [← g2]; exact hp) d' hd'
        rw [Bool.or_eq_true] at hl
        rcases hl with hl | hl
        · obtain ⟨cs, hcs⟩ := hbox d' l hl hm
          rw [hcs]; rfl
        · exact isG_isB (hgb d' l hl hm)
      · exact .inl g2
    · unfold HeadW
      rw [h1 d hm]
      exact .inl .dead
  · by_cases hm : d ∈ hs.map (·.1)
    · obtain ⟨p, hp, rfl⟩ := List.mem_map.1 hm
      rcases (k2 p hp).2 with h3 | h3
      · exact .inr (hgb p.1 p.2 h3 hp)
      · omega
    · exact .inl (h1 d hm)
  · obtain ⟨l, hl, hm⟩ := k4 d (hpin d v hp)
    exact hbox d l hl hm
  · obtain ⟨m1, m2⟩ := hgpin d b hp
    obtain ⟨l, hl, hm⟩ := k6 d m1 m2
    exact hgb d l hl hm

theorem nilTest_spec {ops : Array Oper} {x a d : Nat} {T : TypeId} {neg : Bool} (h : nilTest ops = some (x, a, d, T, neg)) :
    ∃ o p U, ops.toList = [o, p] ∧ o.guard = none ∧ p.guard = none ∧ o.op = .move (.tmp x) ∧ o.dst = some a ∧ p.op = .binOp (if neg = true then .neq else .eql) T (.tmp a) (.const (.slice none 0 0)) U ∧ p.dst = some d := by
  unfold nilTest at h
  split at h
  · rename_i o p hops
    split at h
    · rename_i hg
      simp only [Option.isNone_iff_eq_none] at hg
      split at h
      · rename_i h1 h2 h3 h4
        split at h
        · rename_i hb
          subst hb
          simp only [Option.some.injEq, Prod.mk.injEq] at h
          obtain ⟨rfl, rfl, rfl, rfl, rfl⟩ := h
          exact ⟨o, p, _, hops, hg.1, hg.2, h1, h2, by simpa using h3, h4⟩
        · cases h
      · rename_i h1 h2 h3 h4
        split at h
        · rename_i hb
          subst hb
          simp only [Option.some.injEq, Prod.mk.injEq] at h
          obtain ⟨rfl, rfl, rfl, rfl, rfl⟩ := h
          exact ⟨o, p, _, hops, hg.1, hg.2, h1, h2, by simpa using h3, h4⟩
        · cases h
      · cases h
    · cases h
  · cases h

/-- A slice's value, and that it is empty where it is nil. -/
theorem slice_form {P : Program} {w : World} {lim : Nat → Nat} {X : Nat → Nat → Option Nat} {σ : Nat → AV} {d : Nat} {x : SV} {l : LE} {ρ : Nat → V} {v : Value} (hx : nilLst x = some l) (h : SlotR P w lim X σ d (x.den ρ) v) :
    ∃ a k cap, v = .slice a k cap ∧ (a.isNone = true → l.den ρ = []) := by
  have hrep : ∀ f s, Rep w lim (.slice f s (l.den ρ)) v → ∃ a k cap, v = .slice a k cap ∧ (a.isNone = true → l.den ρ = []) := by
    intro f s hr
    have key : ∀ y, Rep w lim y v → y = .slice f s (l.den ρ) → ∃ a k cap, v = .slice a k cap ∧ (a.isNone = true → l.den ρ = []) := by
      intro y hy hye
      cases hy with
      | sliceN => injection hye with _ _ h3; exact ⟨none, 0, 0, rfl, fun _ => h3.symm⟩
      | sliceE _ => injection hye with _ _ h3; exact ⟨_, _, _, rfl, fun _ => h3.symm⟩
      | sliceC _ _ _ _ _ _ _ _ => exact ⟨_, _, _, rfl, fun h => by cases h⟩
      | val _ => cases hye
      | agg _ _ _ => cases hye
    exact key _ hr rfl
  unfold nilLst at hx
  split at hx
  · simp only [Option.some.injEq] at hx
    subst hx
    exact hrep _ _ h
  · simp only [Option.some.injEq] at hx
    subst hx
    exact hrep _ _ (OwnR.rep (show OwnR P w lim _ _ v (X d 0) from h) false rfl)
  · cases hx

section
variable {P : Program} {E : Env} {R : AV → List AV → Prop}

def Below1 (lv : Nat) (A A' : Nat → List V → Prop) : Prop := ∀ i, i < lv → A' i = A i

theorem ev_sound (hm : P.follows .mixedOrders = true) (hps : PlainSound P E.plain) (hnt : E.top ≤ 1024) {c : Ctx} (hcP : c.P = P) (hcn : c.nt = E.nt) (hpin : ∀ d v, c.pin d = some v → d ∈ E.pins) (hgpin : ∀ d b, c.gpin d = some b → E.nt ≤ d ∧ d < E.top) :
    ∀ (code : Code) (lv n : Nat) (s : Tr) (kn : Tr → Nat → STree) (kx : Nat → Tr → Nat → STree) (kr : Tr → Nat → STree) (A : Nat → List V → Prop) (ρ : Nat → V) (tm : Array Value) (w : World) (lim : Nat → Nat) (X : Nat → Nat → Option Nat)
      (Q : Exit → Act → World → Prop), stBd E s n → (ev P E lv code s n kn kx kr).wp P R A ρ → Sim c (sden E s ρ) tm w lim X →
      (∀ s' n' ρ' A', Below1 lv A A' → stBd E s' n' → (kn s' n').wp P R A' ρ' → ∀ tm' w' lim' X', Sim c (sden E s' ρ') tm' w' lim' X' → Q .normal ⟨tm', []⟩ w') →
      (∀ id s' n' ρ' A', Below1 lv A A' → stBd E s' n' → (kx id s' n').wp P R A' ρ' → ∀ tm' w' lim' X', Sim c (sden E s' ρ') tm' w' lim' X' → Q (.exit id) ⟨tm', []⟩ w') →
      (∀ s' n' ρ' A', Below1 lv A A' → stBd E s' n' → (kr s' n').wp P R A' ρ' → ∀ tm' w' lim' X', Sim c (sden E s' ρ') tm' w' lim' X' → Q .ret ⟨tm', []⟩ w') →
      code.wp P Q ⟨tm, []⟩ w := by
  intro code
  induction code with
  | skip => intro lv n s kn kx kr A ρ tm w lim X Q hs h hsim hn hx hr; exact wp_skip (hn s n ρ A (fun _ _ => rfl) hs h tm w lim X hsim)
  | label l => intro lv n s kn kx kr A ρ tm w lim X Q hs h hsim hn hx hr; exact wp_label (hn s n ρ A (fun _ _ => rfl) hs h tm w lim X hsim)
  | exit id => intro lv n s kn kx kr A ρ tm w lim X Q hs h hsim hn hx hr; exact wp_exit (hx id s n ρ A (fun _ _ => rfl) hs h tm w lim X hsim)
  | ret => intro lv n s kn kx kr A ρ tm w lim X Q hs h hsim hn hx hr; exact wp_ret (hr s n ρ A (fun _ _ => rfl) hs h tm w lim X hsim)
  | seq a b iha ihb =>
    intro lv n s kn kx kr A ρ tm w lim X Q hs h hsim hn hx hr
    refine wp_seq (iha lv n s _ kx kr A ρ tm w lim X _ hs h hsim ?_ hx hr)
    intro s' n' ρ' A' hA hs' h' tm' w' lim' X' hsim'
    exact ihb lv n' s' kn kx kr A' ρ' tm' w' lim' X' Q hs' h' hsim' (fun s2 n2 ρ2 A2 hA2 => hn s2 n2 ρ2 A2 fun i hi => (hA2 i hi).trans (hA i hi))
      (fun id s2 n2 ρ2 A2 hA2 => hx id s2 n2 ρ2 A2 fun i hi => (hA2 i hi).trans (hA i hi)) (fun s2 n2 ρ2 A2 hA2 => hr s2 n2 ρ2 A2 fun i hi => (hA2 i hi).trans (hA i hi))
  | cond x a b iha ihb =>
    intro lv n s kn kx kr A ρ tm w lim X Q hs h hsim hn hx hr
    simp only [ev] at h
    split at h
    · rename_i t ht
      have hxt : x = .tmp t := by cases x <;> simp [slotOf] at ht; rw [ht]
      subst hxt
      have heval : ∀ v : BE, gE E s t = .c (.bool v) → Act.eval ⟨tm, []⟩ (.tmp t) = .bool (v.den ρ) := by
        intro v hv
        have hrel := hsim.rel t
        have : sden E s ρ t = .val (.bool (v.den ρ)) := by simp only [sden, hv, SV.den, SC.den]
        rw [this] at hrel
        exact rep_val hrel
      split at h
      · rename_i v hv
        have he := heval _ hv
        simp only [BE.den] at he
        split at h
        · rename_i hvt
          subst hvt
          exact wp_cond_true he (iha lv n s kn kx kr A ρ tm w lim X Q hs h hsim hn hx hr)
        · rename_i hvt
          have : v = false := by simpa using hvt
          subst this
          exact wp_cond_false he (ihb lv n s kn kx kr A ρ tm w lim X Q hs h hsim hn hx hr)
      · rename_i v _ hv
        refine wp_cond_split (heval v hv) (fun hv' => ?_) fun hv' => ?_
        · obtain ⟨hlt, hsame⟩ := sden_refine hnt hv hv'
          exact iha lv n _ kn kx kr A ρ tm w lim X Q (stBd_set (x := .c (.bool (.lit true))) hnt hlt hs trivial) (h.1 hv') (by rw [hsame]; exact hsim) hn hx hr
        · obtain ⟨hlt, hsame⟩ := sden_refine hnt hv hv'
          exact ihb lv n _ kn kx kr A ρ tm w lim X Q (stBd_set (x := .c (.bool (.lit false))) hnt hlt hs trivial) (h.2 hv') (by rw [hsame]; exact hsim) hn hx hr
      · exact h.elim
    · exact h.elim
  | block id body ih =>
    intro lv n s kn kx kr A ρ tm w lim X Q hs h hsim hn hx hr
    refine wp_block (ih lv n s kn _ kr A ρ tm w lim X _ hs h hsim hn ?_ hr)
    intro id' s' n' ρ' A' hA hs' h' tm' w' lim' X' hsim'
    unfold Exit.inBlock
    by_cases hid : id' = id
    · rw [if_pos hid] at h'
      simp only [hid, if_true]
      exact hn s' n' ρ' A' hA hs' h' tm' w' lim' X' hsim'
    · rw [if_neg hid] at h'
      simp only [hid, if_false]
      exact hx id' s' n' ρ' A' hA hs' h' tm' w' lim' X' hsim'
  | scope body ih =>
    intro lv n s kn kx kr A ρ tm w lim X Q hs h hsim hn hx hr
    exact wp_scope_straight (ih lv n s kn kx kr A ρ tm w lim X _ hs h hsim hn hx hr)
  | loop body ih =>
    intro lv n s kn kx kr A ρ tm w lim X Q hs h hsim hn hx hr
    simp only [ev] at h
    split at h
    case isFalse => exact h.elim
    rename_i hok
    split at h
    case h_2 => exact h.elim
    rename_i init hinit
    obtain ⟨I, m, h0, hround⟩ := h
    have hlen : ∀ {s' : Tr} {ves : List VE}, headVals P (gE E s') (E.keep (firstRegion body)) = some ves → (headUps (E.keep (firstRegion body)) 0).2 = ves.length := by
      intro s' ves hv
      have := (headVals_at (P := P) (g := gE E s') (ρ := ρ) _ 0 ves [] hv rfl).1
      omega
    have key : ∀ (k : Nat) (vs : List V) (tm : Array Value) (w : World) (lim : Nat → Nat) (X : Nat → Nat → Option Nat), m vs < k → vs.length = init.length → I vs →
        Sim c (sden E (applyU (headUps (E.keep (firstRegion body)) 0).1 (.leaf .dead)) (bind zeroE 0 vs)) tm w lim X → Code.rounds P body Q k ⟨tm, []⟩ w := by
      intro k
      induction k with
      | zero => intro vs tm w lim X hlt; omega
      | succ k ihk =>
        intro vs tm w lim X hlt hlv hI hsim
        rw [rounds_succ]
        obtain ⟨k1, k2, k3, k4, k5, k6⟩ := headOk_spec hok
        have hbd : stBd E (applyU (headUps (E.keep (firstRegion body)) 0).1 (.leaf .dead)) (headUps (E.keep (firstRegion body)) 0).2 := by
          refine stBd_applyU hnt _ _ ?_ (fun d => ?_) (headUps_bd _ 0).2
          · unfold usLow
            rw [List.all_eq_true]
            intro u hu
            have h2 := (headVals_at (P := P) (g := gE E s) (ρ := ρ) _ 0 init [] hinit rfl).2.1
            have hm : u.1 ∈ (E.keep (firstRegion body)).map (·.1) := by rw [← h2]; exact List.mem_map.2 ⟨u, hu, rfl⟩
            obtain ⟨p, hp, he⟩ := List.mem_map.1 hm
            have := (k2 p hp).1
            rw [he] at this
            simpa using this
          · unfold gE
            split <;> trivial
        refine ih (lv + 1) _ _ _ kx kr _ (bind zeroE 0 vs) tm w lim X _ hbd (hround vs hlv hI) hsim ?_ ?_ ?_
        · intro s' n' ρ' A' hA hs' h' tm' w' lim' X' hsim'
          split at h'
          · rename_i vals hvals
            have hAl : A' lv = fun vs' => I vs' ∧ m vs' < m vs := by
              rw [hA lv (Nat.lt_succ_self _)]
              funext vs'
              simp only [updA, if_true]
            have h'' : A' lv (vals.map (VE.den ρ')) := h'
            rw [hAl] at h''
            obtain ⟨hI', hm'⟩ := h''
            obtain ⟨X2, hs2⟩ := head_sim hnt hcP hcn hpin hgpin hok zeroE hvals hsim'
            exact ihk _ tm' w' lim' X2 (by omega) (by rw [List.length_map, ← hlen hvals, hlen hinit]) hI' hs2
          · exact h'.elim
        · intro id s' n' ρ' A' hA hs' h' tm' w' lim' X' hsim'
          exact hx id s' n' ρ' A' (fun i hi => by rw [hA i (by omega)]; funext vs'; simp only [updA, Nat.ne_of_lt hi, if_false]) hs' h' tm' w' lim' X' hsim'
        · intro s' n' ρ' A' hA hs' h' tm' w' lim' X' hsim'
          exact hr s' n' ρ' A' (fun i hi => by rw [hA i (by omega)]; funext vs'; simp only [updA, Nat.ne_of_lt hi, if_false]) hs' h' tm' w' lim' X' hsim'
    obtain ⟨X0, hs0⟩ := head_sim hnt hcP hcn hpin hgpin hok zeroE hinit hsim
    exact wp_loop_rounds _ (key (m (init.map (VE.den ρ)) + 1) _ tm w lim X0 (Nat.lt_succ_self _) (by rw [List.length_map]) h0 hs0)
  | region id ops draw =>
    intro lv n s kn kx kr A ρ tm w lim X Q hs h hsim hn hx hr
    simp only [ev] at h
    split at h
    · rename_i x a d T neg htest
      split at h
      case h_2 => exact h.elim
      rename_i e l hT hl
      split at h
      case isFalse => exact h.elim
      rename_i hh
      obtain ⟨ha, hd, hma, hmd, had, hxa⟩ := hh
      obtain ⟨o, p, U, hops, hgo, hgp, h1, h2, h3, h4⟩ := nilTest_spec htest
      obtain ⟨va, k, cap, hv, hnil⟩ := slice_form hl (hsim.rel x)
      have hsz : ops.size = 2 := by rw [← Array.length_toList, hops]; rfl
      have ho0 : ops[0]? = some o := by rw [← Array.getElem?_toList, hops]; rfl
      have ho1 : ops[1]? = some p := by rw [← Array.getElem?_toList, hops]; rfl
      refine wp_region ?_
      rw [hsz, show List.range 2 = [0, 1] from rfl, wpOps_cons]
      unfold wpOp
      simp only [ho0, Region.wanted, hgo]
      simp only [if_true]
      refine .inl (wp_of_run (v := .slice va k cap) (w' := w) ?_ ?_)
      · have hev : Act.eval ⟨tm, []⟩ (.tmp x) = tm.getD x undef := rfl
        simp only [execOp, h1, hev, hv, Sem.run_pure]
      · rw [wpOps_cons]
        unfold wpOp
        simp only [ho1, Region.wanted, hgp]
        simp only [if_true]
        have hea : Act.eval (Act.put ⟨tm, []⟩ o.dst (.slice va k cap)) (.tmp a) = .slice va k cap := by
          rw [h2]
          exact getD_set tm a _ (by rw [hsim.size, hcn]; exact ha)
        refine .inl (wp_of_run (v := .bool (if neg = true then !va.isNone else va.isNone)) (w' := w) ?_ ?_)
        · have hec : Act.eval (Act.put ⟨tm, []⟩ o.dst (.slice va k cap)) (.const (.slice none 0 0)) = .slice none 0 0 := rfl
          have heq := run_equal_slice_nil (P := P) w T _ va k cap hT
          cases neg
          · simp [execOp, h3, hea, hec, eqGuard, binOp, heq]
          · simp [execOp, h3, hea, hec, eqGuard, binOp, heq]
        · have hb := h va.isNone hnil
          have hna : ∀ cs, sden E s ρ a ≠ .box cs := mayPutS_old (mayPut_den (a := gE E s a) (b := .dead) ρ hma)
          have hnd : ∀ cs, sden E s ρ d ≠ .box cs := mayPutS_old (mayPut_den (a := gE E s d) (b := .dead) ρ hmd)
          have s1 := hsim.put (k := 0) (x := .dead) (v := .slice va k cap) (by rw [hcn]; exact ha) hna rfl trivial
          have s2 := s1.put (d := d) (k := 0) (x := .val (.bool (if neg = true then !va.isNone else va.isNone))) (v := .bool (if neg = true then !va.isNone else va.isNone)) (by rw [hcn]; exact hd) (fun cs => by rw [upd_other _ _ (Ne.symm had)]; exact hnd cs) rfl (Rep.val rfl)
          have hbv : (BE.den (bind ρ n [.b va.isNone]) (if neg = true then .not (.var n) else .var n)) = (if neg = true then !va.isNone else va.isNone) := by
            have hvar : bind ρ n [.b va.isNone] n = .b va.isNone := by simp [bind]
            cases neg
            · simp only [Bool.false_eq_true, if_false, BE.den, hvar, V.bool]
            · simp only [if_true, BE.den, hvar, V.bool]
          have hσ : sden E ((s.set depth a .dead).set depth d (.c (.bool (if neg = true then .not (.var n) else .var n)))) (bind ρ n [.b va.isNone]) = upd (upd (sden E s ρ) a .dead) d (.val (.bool (if neg = true then !va.isNone else va.isNone))) := by
            rw [sden_set hnt (lt_top hd), sden_set hnt (lt_top ha), sden_congr hs (bind_lt ρ n _)]
            simp only [SV.den, SC.den, hbv]
          have hs2 : stBd E ((s.set depth a .dead).set depth d (.c (.bool (if neg = true then .not (.var n) else .var n)))) (n + 1) := by
            refine stBd_set hnt (lt_top hd) (stBd_set hnt (lt_top ha) (stBd_mono hs (Nat.le_succ n)) trivial) ?_
            cases neg
            · exact Nat.lt_succ_self n
            · exact Nat.lt_succ_self n
          rw [h2, h4]
          show Q .normal ⟨(tm.setIfInBounds a (.slice va k cap)).setIfInBounds d (.bool (if neg = true then !va.isNone else va.isNone)), []⟩ w
          exact hn _ _ _ A (fun _ _ => rfl) hs2 hb _ w lim _ (by rw [hσ]; exact s2)
    · exact region_sound hm hps hnt (fun d hd => isPB_den ρ hd) hs h hcP hcn hsim fun s' n' ρ' hs' h' => hn s' n' ρ' A (fun _ _ => rfl) hs' h'
  | _ => intro lv n s kn kx kr A ρ tm w lim X Q hs h hsim hn hx hr; exact h.elim

end

end Go.AM
end

section
namespace Go.AM

def resRead (tm : Array Value) : ResultVar → Sem Value
  | .tmp t => pure (tm.getD t undef)
  | .cell a t => do loadVar t (← asAddr (tm.getD a undef))

def resIx : ResultVar → Nat
  | .tmp _ => 0
  | .cell _ _ => 1

theorem results_eq (fn : Func) (tm : Array Value) : results fn tm = (do
    let vs ← fn.results.mapM (resRead tm)
    pure (if h : vs.size = 1 then vs[0] else .tuple vs)) := by
  unfold results
  congr 1

theorem run_mapM {P : Program} {w : World} {f : ResultVar → Sem Value} : ∀ (rs : List ResultVar) (vs : List Value), rs.length = vs.length →
    (∀ (i : Nat) (r : ResultVar) (v : Value), rs[i]? = some r → vs[i]? = some v → (f r).run P w = .ok v w) → (rs.mapM f).run P w = .ok vs w
  | [], [], _, _ => by simp
  | [], _ :: _, h, _ => by simp at h
  | _ :: _, [], h, _ => by simp at h
  | r :: rs, v :: vs, h, hf => by
    have h1 := hf 0 r v rfl rfl
    have h2 := run_mapM rs vs (by simpa using h) fun i r' v' hr hv => hf (i + 1) r' v' (by simpa using hr) (by simpa using hv)
    simp [List.mapM_cons, h1, h2]

theorem run_results {P : Program} {w : World} {fn : Func} {tm : Array Value} {vs : List Value} (hl : fn.results.toList.length = vs.length)
    (hf : ∀ (i : Nat) (r : ResultVar) (v : Value), fn.results.toList[i]? = some r → vs[i]? = some v → (resRead tm r).run P w = .ok v w) :
    (results fn tm).run P w = .ok (match vs with | [v] => v | vs => .tuple vs.toArray) w := by
  have h := run_mapM _ _ hl hf
  rw [results_eq, Array.mapM_eq_mapM_toList]
  simp only [Sem.run_bind, Sem.run_map, h, Result.andThen_ok]
  rcases vs with _ | ⟨v, _ | ⟨u, l⟩⟩ <;> simp

/-- A slice that was written in place is handed over: it is written no more. -/
theorem Sim.give {c : Ctx} {σ σ' : Nat → AV} {tm : Array Value} {w : World} {lim : Nat → Nat} {X : Nat → Nat → Option Nat} (h : Sim c σ tm w lim X) {t d n cap : Nat} {e : TypeId} {xs : List (List AV)} (htd : t ≠ d) (ht : σ t = .mref d)
    (hd : σ d = .box [.row e n cap xs]) (hp : c.pin d = none) (hσt : σ' t = .own e xs) (hσd : σ' d = .dead)
    (hσ : ∀ i, i ≠ t → i ≠ d → (σ' i = .dead ∧ (σ i).isB = false) ∨ (σ' i = σ i ∧ (∀ o, σ i ≠ .ptr d o) ∧ σ i ≠ .mref d ∧ ∀ g ds, σ i = .clo g ds → d ∉ ds)) : ∃ lim' X', Sim c σ' tm w lim' X' := by
  have hrd := h.rel d
  rw [hd] at hrd
  obtain ⟨b, arr, g1, g2, g3, g4, g5, g6, g7, g8, g9, g10, g11⟩ := BoxR.row hrd
  have hrt := h.rel t
  rw [ht] at hrt
  obtain ⟨b', e', n', cap', xs', k1, k2, k3⟩ := hrt
  rw [hd] at k2
  simp only [AV.box.injEq, List.cons.injEq, AV.row.injEq, and_true] at k2
  obtain ⟨rfl, rfl, rfl, rfl⟩ := k2
  have hbb : b' = b := by rw [g1] at k1; exact (Option.some.inj k1).symm
  subst hbb
  have hmul : n * c.P.cellsOf e ≤ cap * c.P.cellsOf e := Nat.mul_le_mul_right _ g6
  have hfl : xs.flatten.length = n * c.P.cellsOf e := by rw [getD_replicate_flat xs _ g9, g5]
  let lim' : Nat → Nat := fun i => if i = b' then n * c.P.cellsOf e else lim i
  have hlb : lim' b' = n * c.P.cellsOf e := by simp [lim']
  have hlo : ∀ i, i ≠ b' → lim' i = lim i := fun i hi => by simp [lim', hi]
  have hstep : WStep w lim w lim' (fun i => i = b') := ⟨rfl, rfl, rfl, Nat.le_refl _, fun _ => rfl, fun i _ hi => ⟨rfl, hlo i hi⟩, fun i _ => ⟨by
    by_cases hi : i = b'
    · subst hi; rw [g4]; exact Nat.zero_le _
    · rw [hlo i hi]; exact Nat.le_refl _, fun _ _ _ hc => hc⟩⟩
  let X' : Nat → Nat → Option Nat := fun i => if i = t then oneRow (some b') else if i = d then noRow else X i
  have hXt : X' t = oneRow (some b') := by simp [X']
  have hXd : X' d = noRow := by simp [X', Ne.symm htd]
  have hXo : ∀ i, i ≠ t → i ≠ d → X' i = X i := fun i hi hj => by simp [X', hi, hj]
  have hin : ∀ i k b, X' i k = some b → (i = t ∧ k = 0 ∧ b = b') ∨ (i ≠ t ∧ i ≠ d ∧ X i k = some b) := by
    intro i k b hb
    by_cases hi : i = t
    · subst hi
      rw [hXt] at hb
      unfold oneRow at hb
      split at hb
      · rename_i hk
        exact .inl ⟨rfl, hk, (Option.some.inj hb).symm⟩
      · cases hb
    · by_cases hj : i = d
      · subst hj
        rw [hXd] at hb
        cases hb
      · rw [hXo i hi hj] at hb
        exact .inr ⟨hi, hj, hb⟩
  have hgk : ∀ i, (σ i).isG = true → σ' i = σ i ∧ i ≠ t ∧ i ≠ d := by
    intro i hi
    have hit : i ≠ t := by intro he; subst he; rw [ht] at hi; cases hi
    have hid : i ≠ d := by intro he; subst he; rw [hd] at hi; cases hi
    rcases hσ i hit hid with ⟨_, h2⟩ | ⟨h1, _⟩
    · rw [isG_isB hi] at h2; cases h2
    · exact ⟨h1, hit, hid⟩
  refine ⟨lim', X', ⟨fun i => ?_, h.size, fun i hi => ?_, fun i hi => ?_, fun i k i' k' b h1 h2 => ?_, fun i k b hb => ?_, h.frm.step hstep fun i hi => by (rw [hi]; exact (h.ours d 0 b' g1).2), fun i v hv => ?_, fun i b hb => ?_⟩⟩
  · by_cases hi : i = t
    · subst hi
      rw [hσt]
      show OwnR c.P w lim' e xs (tm.getD i undef) (X' i 0)
      rw [hXt, k3]
      refine .inl ⟨arr.toList.take (n * c.P.cellsOf e), ?_, rfl, fun b hb => ?_, g9, g10, fun j z u hz hu => ?_⟩
      · rw [g5]
        exact ⟨by rw [List.length_take, Array.length_toList, g8]; omega, .inr ⟨b', cap, arr, rfl, Nat.zero_le _, g3, g6, g7, g8, rfl⟩⟩
      · have : b = b' := (Option.some.inj hb).symm
        subst this
        rw [hlb, List.length_take, Array.length_toList, g8]
        omega
      · rw [List.getElem?_take] at hu
        split at hu
        · exact (g11 j z u hz (by simpa using hu)).mono hstep.ext
        · cases hu
    · by_cases hj : i = d
      · subst hj
        rw [hσd]
        trivial
      · rcases hσ i hi hj with ⟨h1, _⟩ | ⟨h1, h2, h3, h3c⟩
        · rw [h1]; trivial
        · rw [h1]
          have hm := (h.rel i).mono hstep.ext fun k b hb => hstep.blk b (h.ours i k b hb).1 fun hs => by
            subst hs
            exact hj (h.dist i k d 0 _ hb g1).1
          have keep : ∀ d' cs, d' ≠ d → σ d' = .box cs → σ' d' = .box cs ∧ X' d' 0 = X d' 0 := by
            intro d' cs hne hd'
            have hnt : d' ≠ t := by
              intro he
              subst he
              rw [ht] at hd'
              cases hd'
            rcases hσ d' hnt hne with ⟨_, h5⟩ | ⟨h4, _⟩
            · rw [hd'] at h5; cases h5
            · exact ⟨by rw [h4, hd'], by rw [hXo d' hnt hne]⟩
          have keepB : ∀ d', d' ≠ d → (σ d').isB = true → (σ' d').isB = true ∧ X' d' 0 = X d' 0 := by
            intro d' hne hd'
            rcases isB_cases hd' with ⟨cs, hcs⟩ | hg
            · obtain ⟨m1, m2⟩ := keep d' cs hne hcs
              exact ⟨by rw [m1]; rfl, m2⟩
            · obtain ⟨m1, m2, m3⟩ := hgk d' hg
              exact ⟨by rw [m1]; exact hd', by rw [hXo d' m2 m3]⟩
          generalize σ i = x at hm h2 h3 h3c
          have hXi := hXo i hi hj
          cases x with
          | ptr d' off =>
            obtain ⟨b, cs, m1, m2, m3⟩ := hm
            obtain ⟨m4, m5⟩ := keep d' cs (fun he => h2 off (by rw [he])) m2
            exact ⟨b, cs, m5.trans m1, m4, m3⟩
          | mref d' =>
            obtain ⟨b, e, n, cap, xs, m1, m2, m3⟩ := hm
            obtain ⟨m4, m5⟩ := keep d' _ (fun he => h3 (by rw [he])) m2
            exact ⟨b, e, n, cap, xs, m5.trans m1, m4, m3⟩
          | gbox cs =>
            obtain ⟨v', hm⟩ := hm
            exact ⟨v', by rw [hXi]; exact hm⟩
          | clo g ds =>
            obtain ⟨bs, m1, m2, m3⟩ := hm
            refine ⟨bs, m1, m2, fun k d' b hd' hb => ?_⟩
            obtain ⟨m4, m5⟩ := m3 k d' b hd' hb
            obtain ⟨m6, m7⟩ := keepB d' (fun he => h3c g ds rfl (by rw [← he]; exact List.mem_of_getElem? hd')) m5
            exact ⟨m7.trans m4, m6⟩
          | row e n cap xs => exact hm
          | own e xs => show OwnR c.P w lim' e xs _ (X' i 0); rw [hXi]; exact hm
          | box cs => show BoxR c.P w lim' (X' i) cs _; rw [hXi]; exact hm
          | tuple vs =>
            obtain ⟨us, m1, m2, m3⟩ := hm
            refine ⟨us, m1, m2, ?_⟩
            rw [hXi]
            exact m3
          | dead => trivial
          | gone => trivial
          | eptr cs => exact hm
          | val v => exact hm
          | agg cs => exact hm
          | slice f s xs => exact hm
  · have hdd := h.out i hi
    have hit : i ≠ t := by intro he; subst he; rw [ht] at hdd; rcases hdd with h0 | h0 <;> cases h0
    have hid : i ≠ d := by intro he; subst he; rw [hd] at hdd; rcases hdd with h0 | h0 <;> cases h0
    rcases hσ i hit hid with ⟨h1, _⟩ | ⟨h1, _⟩
    · exact .inl h1
    · rw [h1]; exact hdd
  · by_cases hit : i = t
    · subst hit; rw [hσt] at hi; cases hi
    · by_cases hid : i = d
      · subst hid; rw [hσd] at hi; cases hi
      · rcases hσ i hit hid with ⟨h1, _⟩ | ⟨h1, _⟩
        · rw [h1] at hi; cases hi
        · rw [h1] at hi; exact h.ghost i hi
  · rcases hin i k b h1 with ⟨a1, a2, a3⟩ | ⟨a1, a2, a3⟩ <;> rcases hin i' k' b h2 with ⟨b1, b2, b3⟩ | ⟨b1, b2, b3⟩
    · exact ⟨a1.trans b1.symm, a2.trans b2.symm⟩
    · subst a3
      exact (b2 (h.dist i' k' d 0 _ b3 g1).1).elim
    · subst b3
      exact (a2 (h.dist i k d 0 _ a3 g1).1).elim
    · exact h.dist i k i' k' b a3 b3
  · rcases hin i k b hb with ⟨a1, a2, a3⟩ | ⟨a1, a2, a3⟩
    · subst a3
      exact h.ours d 0 _ g1
    · exact h.ours i k b a3
  · obtain ⟨h1, cs, h2⟩ := h.pin i v hv
    have hit : i ≠ t := by intro he; subst he; rw [ht] at h2; cases h2
    have hid : i ≠ d := by intro he; subst he; rw [hp] at hv; cases hv
    rcases hσ i hit hid with ⟨_, h5⟩ | ⟨h4, _⟩
    · rw [h2] at h5; cases h5
    · exact ⟨h1, cs, by rw [h4, h2]⟩
  · obtain ⟨h1, h2⟩ := h.gpin i b hb
    obtain ⟨m1, m2, m3⟩ := hgk i h2
    exact ⟨by rw [hXo i m2 m3]; exact h1, by rw [m1]; exact h2⟩

theorem updL_dead : ∀ (us : List (Nat × AV)) (σ : Nat → AV) (i : Nat), (∀ u ∈ us, u.2 = .dead) → updL σ us i = if i ∈ us.map (·.1) then .dead else σ i
  | [], σ, i, _ => by simp [updL]
  | (d, x) :: us, σ, i, h => by
    have hx : x = .dead := h (d, x) (by simp)
    subst hx
    rw [updL, updL_dead us _ i fun u hu => h u (by simp [hu])]
    by_cases hm : i ∈ us.map (·.1)
    · rw [if_pos hm, if_pos (by simp only [List.map_cons, List.mem_cons]; exact .inr hm)]
    · rw [if_neg hm]
      by_cases hi : i = d
      · subst hi
        rw [upd_same, if_pos (by simp)]
      · rw [upd_other _ _ hi, if_neg (by simp only [List.map_cons, List.mem_cons]; exact fun h => h.elim hi hm)]

theorem dropUps_mem (g : Nat → SV) (d t : Nat) : ∀ (n i : Nat) (x : SV), (i, x) ∈ dropUps g d t n ↔ x = .dead ∧ i < n ∧ i ≠ t ∧ refsTo d (g i) = true
  | 0, i, x => by simp [dropUps]
  | n + 1, i, x => by
    unfold dropUps
    split
    · rename_i hh
      rw [List.mem_cons, dropUps_mem g d t n i x]
      simp only [Prod.mk.injEq]
      constructor
      · rintro (⟨rfl, rfl⟩ | ⟨h1, h2, h3⟩)
        · exact ⟨rfl, by omega, hh⟩
        · exact ⟨h1, by omega, h3⟩
      · rintro ⟨h1, h2, h3⟩
        by_cases hi : i = n
        · exact .inl ⟨hi, h1⟩
        · exact .inr ⟨h1, by omega, h3⟩
    · rename_i hh
      rw [dropUps_mem g d t n i x]
      constructor
      · rintro ⟨h1, h2, h3⟩
        exact ⟨h1, by omega, h3⟩
      · rintro ⟨h1, h2, h3⟩
        by_cases hi : i = n
        · subst hi; exact (hh h3).elim
        · exact ⟨h1, by omega, h3⟩

section
variable {P : Program} {E : Env}

theorem giveOne_sim (hnt : E.top ≤ 1024) {c : Ctx} (hcn : c.nt = E.nt) (hpin : ∀ d v, c.pin d = some v → d ∈ E.pins) {s : Tr} {ρ : Nat → V} {tm : Array Value} {w : World} {lim : Nat → Nat} {X : Nat → Nat → Option Nat} (hs : Sim c (sden E s ρ) tm w lim X) (t : Nat) :
    ∃ lim' X', Sim c (sden E (giveOne E s t) ρ) tm w lim' X' := by
  unfold giveOne
  split
  · rename_i d ht
    split
    · rename_i e m cp l hd
      split
      · rename_i hh
        obtain ⟨h1, h2, h3, h4⟩ := hh
        have l1 : usLow E (dropUps (gE E s) d t E.nt) := by
          unfold usLow
          rw [List.all_eq_true]
          intro u hu
          have := ((dropUps_mem (gE E s) d t E.nt u.1 u.2).1 hu).2.1
          simpa using lt_top this
        have l2 : usLow E [(t, SV.own e l), (d, SV.dead)] := by simp only [usLow, List.all_cons, List.all_nil, Bool.and_true, Bool.and_eq_true, decide_eq_true_eq]; exact ⟨lt_top h2, lt_top h3⟩
        have hσ : ∀ i, sden E (applyU [(t, .own e l), (d, .dead)] (applyU (dropUps (gE E s) d t E.nt) s)) ρ i = if i = d then .dead else if i = t then .own e (l.den ρ) else if i < E.nt ∧ i ≠ t ∧ refsTo d (gE E s i) = true then .dead else sden E s ρ i := by
          intro i
          rw [sden_applyU hnt ρ _ _ l2, sden_applyU hnt ρ _ _ l1]
          simp only [List.map_cons, List.map_nil, updL]
          by_cases hi : i = d
          · subst hi; rw [upd_same, if_pos rfl]; rfl
          · rw [upd_other _ _ hi, if_neg hi]
            by_cases hj : i = t
            · subst hj; rw [upd_same, if_pos rfl]; rfl
            · rw [upd_other _ _ hj, if_neg hj, updL_dead _ _ _ fun u hu => by
                obtain ⟨v, hv, rfl⟩ := List.mem_map.1 hu
                have := ((dropUps_mem (gE E s) d t E.nt v.1 v.2).1 hv).1
                show v.2.den ρ = .dead
                rw [this]; rfl]
              rw [List.map_map]
              by_cases hm : i < E.nt ∧ i ≠ t ∧ refsTo d (gE E s i) = true
              · rw [if_pos hm, if_pos]
                exact List.mem_map.2 ⟨(i, .dead), (dropUps_mem _ _ _ _ _ _).2 ⟨rfl, hm⟩, rfl⟩
              · rw [if_neg hm, if_neg]
                intro hc
                obtain ⟨u, hu, rfl⟩ := List.mem_map.1 hc
                exact hm ((dropUps_mem _ _ _ _ _ _).1 hu).2
        have hrefs : ∀ i, i < E.nt → (refsTo d (gE E s i) = true → (sden E s ρ i).isB = false) ∧ (refsTo d (gE E s i) ≠ true → (∀ o, sden E s ρ i ≠ .ptr d o) ∧ sden E s ρ i ≠ .mref d ∧ ∀ g ds, sden E s ρ i = .clo g ds → d ∉ ds) := by
          intro i _
          simp only [sden]
          cases gE E s i with
          | ptr d' o => simp [refsTo, SV.den, AV.isB]
          | mref d' => simp [refsTo, SV.den, AV.isB]
          | rptr d' i s o => simp [refsTo, SV.den, AV.isB]
          | clo g ds =>
            refine ⟨fun _ => rfl, fun h => ⟨fun _ h => (by cases h), fun h => (by cases h), fun g' ds' he hm => h ?_⟩⟩
            simp only [SV.den, AV.clo.injEq] at he
            obtain ⟨_, rfl⟩ := he
            simpa [refsTo] using hm
          | c x => cases x <;> simp [refsTo, SV.den, SC.den]
          | _ => simp [refsTo, SV.den]
        refine hs.give (t := t) (d := d) h1 (by simp only [sden, ht]; rfl) (by simp only [sden, hd]; rfl) ?_ (by rw [hσ, if_neg h1, if_pos rfl]) (by rw [hσ, if_pos rfl]) fun i hi hj => ?_
        · cases hp : c.pin d with
          | none => rfl
          | some v =>
            have := hpin d v hp
            rw [← List.contains_iff_mem, h4] at this
            cases this
        · rw [hσ, if_neg hj, if_neg hi]
          by_cases hlt : i < E.nt
          · by_cases hr : refsTo d (gE E s i) = true
            · rw [if_pos ⟨hlt, hi, hr⟩]
              exact .inl ⟨rfl, (hrefs i hlt).1 hr⟩
            · rw [if_neg fun h => hr h.2.2]
              exact .inr ⟨rfl, (hrefs i hlt).2 hr⟩
          · rw [if_neg fun h => hlt h.1]
            rcases hs.out i (by omega) with h0 | h0
            · rw [h0]
              refine .inr ⟨rfl, ?_, ?_, ?_⟩ <;> simp
            · refine .inr ⟨rfl, ?_, ?_, ?_⟩
              · intro o e; rw [e] at h0; cases h0
              · intro e; rw [e] at h0; cases h0
              · intro g ds e; rw [e] at h0; cases h0
      · exact ⟨lim, X, hs⟩
    · exact ⟨lim, X, hs⟩
  · exact ⟨lim, X, hs⟩

theorem giveAll_sim (hnt : E.top ≤ 1024) {c : Ctx} (hcn : c.nt = E.nt) (hpin : ∀ d v, c.pin d = some v → d ∈ E.pins) {ρ : Nat → V} {tm : Array Value} {w : World} : ∀ (rs : List ResultVar) {s : Tr} {lim : Nat → Nat} {X : Nat → Nat → Option Nat}, Sim c (sden E s ρ) tm w lim X →
    ∃ lim' X', Sim c (sden E (giveAll E s rs) ρ) tm w lim' X'
  | [], _, lim, X, hs => ⟨lim, X, hs⟩
  | .tmp t :: rs, _, _, _, hs => by
    obtain ⟨lim', X', h⟩ := giveOne_sim hnt hcn hpin hs t
    exact giveAll_sim hnt hcn hpin rs h
  | .cell _ _ :: rs, _, _, _, hs => giveAll_sim hnt hcn hpin rs hs

theorem resOne_ok {c : Ctx} (hc : c.P = P) {s : Tr} {ρ : Nat → V} {tm : Array Value} {w : World} {lim : Nat → Nat} {X : Nat → Nat → Option Nat} (hs : Sim c (sden E s ρ) tm w lim X) {r : ResultVar} {x : TC}
    (h : resOne P (gE E s) r = some x) : ∃ v, (resRead tm r).run P w = .ok v w ∧ CellR P w lim (X (resSlot r) (resIx r)) (x.den ρ) v := by
  cases r with
  | tmp t =>
    have hr := hs.rel t
    simp only [resOne] at h
    split at h
    · rename_i y hy
      simp only [Option.some.injEq] at h
      subst h
      have : sden E s ρ t = y.den ρ := by simp only [sden, hy, SV.den]
      rw [this] at hr
      exact ⟨_, rfl, by cases y <;> exact hr⟩
    · rename_i cs hy
      simp only [Option.some.injEq] at h
      subst h
      have : sden E s ρ t = .agg (cs.map (SC.den ρ)) := by simp only [sden, hy, SV.den]
      rw [this] at hr
      exact ⟨_, rfl, hr⟩
    · rename_i e xs hy
      simp only [Option.some.injEq] at h
      subst h
      have : sden E s ρ t = .own e (xs.den ρ) := by simp only [sden, hy, SV.den]
      rw [this, hc] at hr
      exact ⟨_, rfl, hr⟩
    · cases h
  | cell t T =>
    have hr := hs.rel t
    simp only [resOne] at h
    split at h
    · rename_i cs hT hy
      split at h
      · rename_i hl
        simp only [Option.some.injEq] at h
        subst h
        have : sden E s ρ t = .box (cs.map (BC.den ρ)) := by simp only [sden, hy, SV.den]
        rw [this, hc] at hr
        obtain ⟨b, us, g1, g2, g3, g4, g5, g6⟩ := PlainR.part (BoxR.plain hr (plainB_ok hl.2 ρ)) 0 (P.cellsOf T) (by simp [hl.1])
        refine ⟨.agg us.toArray, ?_, ?_⟩
        · obtain ⟨i, hi⟩ := isAgg_info hT
          have hl2 := run_loadCells_list (P := P) w ⟨b, 0, none⟩ us (fun j v hj => by rw [add_none]; exact g4 j v hj)
          rw [g3] at hl2
          simp [resRead, g2, asAddr, loadVar, isAgg_true hT, run_sizeOf hi, hl2]
        · have he : (TC.agg (cs.map (stripB P))).den ρ = .agg ((((cs.map (BC.den ρ)).drop 0).take (P.cellsOf T)).map (stripS P)) := by
            rw [List.drop_zero, List.take_of_length_le (by simp [hl.1])]
            simp only [TC.den, List.map_map]
            congr 1
            exact List.map_congr_left fun b _ => stripB_den P ρ b
          rw [he]
          exact .agg (by simp [g3, hl.1]) g5 g6
      · cases h
    · rename_i e xs hT hy
      simp only [Option.some.injEq] at h
      subst h
      have : sden E s ρ t = .box [.own e (xs.den ρ)] := by simp only [sden, hy, SV.den]; rfl
      rw [this, hc] at hr
      obtain ⟨b, arr, ty, h1, h2, h3, h4, h5, h6, h7⟩ := BoxR.plain hr (noRow_of fun c hc => by (rw [List.mem_singleton.1 hc]; exact .inr ⟨_, _, rfl⟩))
      obtain ⟨u, hu⟩ : ∃ u, arr[0]? = some u := ⟨_, Array.getElem?_eq_getElem (by rw [h4]; simp)⟩
      refine ⟨u, ?_, h7 0 _ u rfl hu⟩
      have hcell : w.cell? ⟨b, 0, none⟩ = some u := by rw [cell_of_heap h3]; exact hu
      simp [resRead, h2, asAddr, loadVar, isAgg_false hT, hcell]
    · rename_i y hT hy
      simp only [Option.some.injEq] at h
      subst h
      have : sden E s ρ t = .box [y.den ρ] := by simp only [sden, hy, SV.den]; rfl
      rw [this, hc] at hr
      obtain ⟨b, arr, ty, h1, h2, h3, h4, h5, h6, h7⟩ := BoxR.plain hr (noRow_of fun c hc => by (rw [List.mem_singleton.1 hc]; exact .inl (scden_cell ρ y)))
      obtain ⟨u, hu⟩ : ∃ u, arr[0]? = some u := ⟨_, Array.getElem?_eq_getElem (by rw [h4]; simp)⟩
      have h70 := h7 0 _ u rfl hu
      refine ⟨u, ?_, by cases y <;> exact h70⟩
      have hcell : w.cell? ⟨b, 0, none⟩ = some u := by rw [cell_of_heap h3]; exact hu
      simp [resRead, h2, asAddr, loadVar, isAgg_false hT, hcell]
    · cases h

theorem resAll_ok {c : Ctx} (hc : c.P = P) {s : Tr} {ρ : Nat → V} {tm : Array Value} {w : World} {lim : Nat → Nat} {X : Nat → Nat → Option Nat} (hs : Sim c (sden E s ρ) tm w lim X) : ∀ (rs : List ResultVar) (xs : List TC),
    resAll P (gE E s) rs = some xs → ∃ vs : List Value, rs.length = vs.length ∧ xs.length = vs.length ∧ ∀ (i : Nat) (r : ResultVar) (v : Value), rs[i]? = some r → vs[i]? = some v →
      (resRead tm r).run P w = .ok v w ∧ ∀ x, xs[i]? = some x → CellR P w lim (X (resSlot r) (resIx r)) (x.den ρ) v
  | [], xs, h => by
    simp only [resAll, Option.some.injEq] at h
    subst h
    exact ⟨[], rfl, rfl, by simp⟩
  | r :: rs, xs, h => by
    simp only [resAll] at h
    split at h
    · rename_i x xs' hx hxs
      simp only [Option.some.injEq] at h
      subst h
      obtain ⟨v, h1, h2⟩ := resOne_ok hc hs hx
      obtain ⟨vs, g1, g2, g3⟩ := resAll_ok hc hs rs xs' hxs
      refine ⟨v :: vs, by simp [g1], by simp [g2], fun i r' v' hr hv => ?_⟩
      cases i with
      | zero =>
        simp only [List.getElem?_cons_zero, Option.some.injEq] at hr hv
        subst hr
        subst hv
        refine ⟨h1, fun y hy => ?_⟩
        simp only [List.getElem?_cons_zero, Option.some.injEq] at hy
        subst hy
        exact h2
      | succ i =>
        obtain ⟨k1, k2⟩ := g3 i r' v' (by simpa using hr) (by simpa using hv)
        exact ⟨k1, fun y hy => k2 y (by simpa using hy)⟩
    · cases h

theorem cellR_slotR {w : World} {lim : Nat → Nat} {X : Nat → Nat → Option Nat} {σ : Nat → AV} {d : Nat} {x : TC} {ρ : Nat → V} {v : Value} (h : CellR P w lim (X d 0) (x.den ρ) v) : SlotR P w lim X σ d (x.den ρ) v := by
  cases x with
  | c y => cases y <;> exact h
  | agg cs => exact h
  | own e l => exact h

theorem argUps_den (ρ : Nat → V) : ∀ (as : List SV) (i : Nat) (σ : Nat → AV) (d : Nat), updL σ ((argUps as i).map fun u => (u.1, u.2.den ρ)) d = if i ≤ d ∧ d < i + as.length then argS (as.map (SV.den ρ)) (d - i) else σ d
  | [], i, σ, d => by
    rw [if_neg (by simp)]
    rfl
  | a :: as, i, σ, d => by
    simp only [argUps, List.map_cons, updL]
    rw [argUps_den ρ as (i + 1)]
    by_cases h : i + 1 ≤ d ∧ d < i + 1 + as.length
    · rw [if_pos h, if_pos (by simp only [List.length_cons]; omega)]
      obtain ⟨k, hk⟩ : ∃ k, d - i = k + 1 := ⟨d - i - 1, by omega⟩
      rw [hk, show d - (i + 1) = k by omega]
      simp [argS]
    · rw [if_neg h]
      by_cases hd : d = i
      · subst hd
        rw [upd_same, if_pos (by simp)]
        simp [argS]
      · rw [upd_other _ _ hd, if_neg (by simp only [List.length_cons]; omega)]

theorem argUps_bd {n : Nat} : ∀ (as : List SV) (i : Nat), (∀ a ∈ as, a.bd n) → ∀ u ∈ argUps as i, u.2.bd n
  | [], i, _, u, hu => by simp [argUps] at hu
  | a :: as, i, h, u, hu => by
    rcases List.mem_cons.1 hu with rfl | hu
    · exact h a (by simp)
    · exact argUps_bd as (i + 1) (fun b hb => h b (by simp [hb])) u hu

theorem argUps_low : ∀ (as : List SV) (i m : Nat), i + as.length ≤ m → ∀ u ∈ argUps as i, u.1 < m
  | [], i, m, _, u, hu => by simp [argUps] at hu
  | a :: as, i, m, h, u, hu => by
    simp only [List.length_cons] at h
    rcases List.mem_cons.1 hu with rfl | hu
    · show i < m; omega
    · exact argUps_low as (i + 1) m (by omega) u hu

def SV.isBx : SV → Bool
  | .box _ => true
  | .gbox _ => true
  | _ => false

theorem argsFine_tail {a : SV} {as : List SV} {i : Nat} (h : argsFine E (a :: as) i = true) : argsFine E as (i + 1) = true := by
  cases a <;> simp only [argsFine, Bool.and_eq_true, Bool.false_eq_true] at h <;> exact h.2

/-- Among the arguments that stand here: the boxes are pinned, and what stands behind the activation's own slots is a ghost. -/
theorem argsFine_at : ∀ (as : List SV) (i : Nat), argsFine E as i = true → ∀ (j : Nat) (a : SV), as[j]? = some a → (∀ cs, a = .box cs → i + j ∈ E.pins) ∧ (a.isG = true ↔ E.nt ≤ i + j)
  | [], i, _, j, a, h => by simp at h
  | a :: as, i, hf, j, b, h => by
    cases j with
    | zero =>
      simp only [List.getElem?_cons_zero, Option.some.injEq] at h
      subst h
      refine ⟨fun cs e => ?_, ?_⟩
      · subst e
        simp only [argsFine, Bool.and_eq_true, List.contains_iff_mem] at hf
        exact hf.1.2
      · cases a <;> simp only [argsFine, Bool.and_eq_true, decide_eq_true_eq, Bool.false_eq_true] at hf <;> simp only [SV.isG, Bool.false_eq_true, false_iff, true_iff] <;> omega
    | succ j =>
      have := argsFine_at as (i + 1) (argsFine_tail hf) j b (by simpa using h)
      rw [show i + (j + 1) = i + 1 + j by omega]
      exact this

theorem outOf_at (g : Nat → SV) : ∀ (as : List SV) (i j : Nat), (outOf g as i)[j]? = (as[j]?).map fun a => if a.isBx = true then g (i + j) else .dead
  | [], i, j => by simp [outOf]
  | a :: as, i, 0 => by cases a <;> rfl
  | a :: as, i, j + 1 => by
    have := outOf_at g as (i + 1) j
    rw [show i + 1 + j = i + (j + 1) by omega] at this
    cases a <;> simpa [outOf] using this

theorem outOf_len (g : Nat → SV) : ∀ (as : List SV) (i : Nat), (outOf g as i).length = as.length
  | [], i => rfl
  | a :: as, i => by cases a <;> simp [outOf, outOf_len g as]

/-- Where the blocks of what is handed back stand. -/
def srcX (args : List SV) (rs : List ResultVar) (i k : Nat) : Option (Nat × Nat) :=
  if i < args.length then (if (args[i]?).map SV.isBx = some true then some (i, k) else none)
  else if i = args.length then
    match rs with
    | [r] => if k = 0 then some (resSlot r, resIx r) else none
    | rs => match k with | 0 => none | k + 1 => (rs[k]?).map fun r => (resSlot r, resIx r)
  else none

theorem nodup_at : ∀ (rs : List ResultVar), (rs.map resSlot).Nodup → ∀ (i j : Nat) (a b : ResultVar), rs[i]? = some a → rs[j]? = some b → resSlot a = resSlot b → i = j
  | [], _, i, j, a, b, h, _, _ => by simp at h
  | r :: rs, hn, i, j, a, b, ha, hb, he => by
    rw [List.map_cons, List.nodup_cons] at hn
    cases i with
    | zero =>
      cases j with
      | zero => rfl
      | succ j =>
        simp only [List.getElem?_cons_zero, Option.some.injEq] at ha
        subst ha
        exact (hn.1 (List.mem_map.2 ⟨b, List.mem_of_getElem? (by simpa using hb), he.symm⟩)).elim
    | succ i =>
      cases j with
      | zero =>
        simp only [List.getElem?_cons_zero, Option.some.injEq] at hb
        subst hb
        exact (hn.1 (List.mem_map.2 ⟨a, List.mem_of_getElem? (by simpa using ha), he⟩)).elim
      | succ j => rw [nodup_at rs hn.2 i j a b (by simpa using ha) (by simpa using hb) he]

/-- A result's place among the results. -/
theorem srcX_res {args : List SV} {rs : List ResultVar} {k : Nat} {p : Nat × Nat} (h : srcX args rs args.length k = some p) :
    ∃ j r, rs[j]? = some r ∧ p = (resSlot r, resIx r) ∧ ((rs.length = 1 ∧ j = 0 ∧ k = 0) ∨ (rs.length ≠ 1 ∧ k = j + 1)) := by
  unfold srcX at h
  rw [if_neg (Nat.lt_irrefl _), if_pos rfl] at h
  split at h
  · rename_i r
    split at h
    · rename_i hk
      simp only [Option.some.injEq] at h
      exact ⟨0, r, rfl, h.symm, .inl ⟨rfl, rfl, hk⟩⟩
    · cases h
  · rename_i hne
    split at h
    · cases h
    · rename_i k
      cases hr : rs[k]? with
      | none => simp [hr] at h
      | some r =>
        simp only [hr, Option.map_some, Option.some.injEq] at h
        refine ⟨k, r, hr, h.symm, .inr ⟨fun h1 => ?_, rfl⟩⟩
        obtain ⟨r', hr'⟩ := List.length_eq_one_iff.1 h1
        exact hne r' hr'

theorem srcX_inj {args : List SV} {rs : List ResultVar} (hf : resFine args rs = true) {i k i' k' : Nat} {p : Nat × Nat} (h : srcX args rs i k = some p) (h' : srcX args rs i' k' = some p) : i = i' ∧ k = k' := by
  simp only [resFine, Bool.and_eq_true] at hf
  obtain ⟨hn, hb⟩ := hf
  have hnd := nodupB_ok _ hn
  have hform : ∀ i k p, srcX args rs i k = some p → (i < args.length ∧ p = (i, k) ∧ ∃ a, args[i]? = some a ∧ a.isBx = true) ∨ i = args.length := by
    intro i k p h
    unfold srcX at h
    split at h
    · rename_i hi
      split at h
      · rename_i hbx
        simp only [Option.some.injEq] at h
        obtain ⟨a, ha, hax⟩ := Option.map_eq_some_iff.1 hbx
        exact .inl ⟨hi, h.symm, a, ha, hax⟩
      · cases h
    · split at h
      · rename_i hi; exact .inr hi
      · cases h
  have hno : ∀ (j : Nat) (r : ResultVar), rs[j]? = some r → ∀ a, args[resSlot r]? = some a → a.isBx = true → False := by
    intro j r hr a ha hax
    rw [List.all_eq_true] at hb
    have := hb r (List.mem_of_getElem? hr)
    rw [ha] at this
    cases a <;> simp [SV.isBx] at hax <;> cases this
  rcases hform i k p h with ⟨h1, h2, a, h3, h4⟩ | h1 <;> rcases hform i' k' p h' with ⟨h1', h2', a', h3', h4'⟩ | h1'
  · rw [h2] at h2'
    simp only [Prod.mk.injEq] at h2'
    exact h2'
  · subst h1'
    obtain ⟨j, r, g1, g2, _⟩ := srcX_res h'
    rw [h2] at g2
    simp only [Prod.mk.injEq] at g2
    exact (hno j r g1 a (by rw [← g2.1]; exact h3) h4).elim
  · subst h1
    obtain ⟨j, r, g1, g2, _⟩ := srcX_res h
    rw [h2'] at g2
    simp only [Prod.mk.injEq] at g2
    exact (hno j r g1 a' (by rw [← g2.1]; exact h3') h4').elim
  · subst h1
    subst h1'
    obtain ⟨j, r, g1, g2, g3⟩ := srcX_res h
    obtain ⟨j', r', g1', g2', g3'⟩ := srcX_res h'
    rw [g2] at g2'
    simp only [Prod.mk.injEq] at g2'
    have := nodup_at rs hnd j j' r r' g1 g1' g2'.1
    refine ⟨rfl, ?_⟩
    omega

end

end Go.AM
end

section
namespace Go.AM

/-- Fields of integers and bools, and of structs of such ('rec'), that lie one behind the other; 'e': how deep a type's leaves are looked for. -/
def flatF (P : Program) (rec : TypeId → Bool) (e : Nat) : List Field → Nat → Bool
  | [], _ => true
  | f :: fs, off => (f.name != "_") && (f.offset == off) &&
    (match P.underlying f.type with
      | some (.int _) => true
      | some .bool => true
      | some (.struct _) => rec f.type && (P.info? f.type).isSome
      | _ => false) &&
    (match leafs P e f.type with | some l => (P.cellsOf f.type == l.length) && flatF P rec e fs (off + l.length) | none => false)

def flatT (P : Program) : Nat → TypeId → Bool
  | 0, _ => false
  | e + 1, T =>
    match P.underlying T with
    | some (.struct fs) => flatF P (flatT P e) e fs.toList 0 && !P.stoodInHeld T
    | _ => false

def flatB (P : Program) (T : TypeId) : Bool := flatT P 8 T && !P.eqGuardType P.depth T

theorem kindsV_app : ∀ (L1 L2 : List Sh) (us : List Value), kindsV (L1 ++ L2) us → kindsV L1 (us.take L1.length) ∧ kindsV L2 (us.drop L1.length) ∧ (us.take L1.length).length = L1.length
  | [], L2, us, h => ⟨by simp [kindsV], by simpa using h, by simp⟩
  | s :: L1, L2, [], h => by cases s <;> exact h.elim
  | s :: L1, L2, u :: us, h => by
    cases s <;> cases u <;> try exact h.elim
    · obtain ⟨h1, h2, h3⟩ := kindsV_app L1 L2 us h.2
      exact ⟨⟨h.1, h1⟩, h2, by simpa using h3⟩
    · obtain ⟨h1, h2, h3⟩ := kindsV_app L1 L2 us h
      exact ⟨h1, h2, by simpa using h3⟩

theorem eqV_app : ∀ (L : List Sh) (a c b d : List Value), kindsV L a → kindsV L c → eqV (a ++ b) (c ++ d) = (eqV a c && eqV b d)
  | [], [], [], b, d, _, _ => by simp [eqV]
  | [], _ :: _, _, _, _, h, _ => h.elim
  | [], [], _ :: _, _, _, _, h => h.elim
  | s :: L, [], _, _, _, h, _ => by cases s <;> exact h.elim
  | s :: L, _ :: _, [], _, _, _, h => by cases s <;> exact h.elim
  | s :: L, x :: a, y :: c, b, d, h, h' => by
    cases s <;> cases x <;> (try exact h.elim) <;> cases y <;> try exact h'.elim
    · simp only [List.cons_append, eqV, eqV_app L a c b d h.2 h'.2, Bool.and_assoc]
    · simp only [List.cons_append, eqV, eqV_app L a c b d h h', Bool.and_assoc]

section
variable {P : Program}

/-- What is known of a type of that kind. -/
def FlatEq (P : Program) (e k : Nat) (T : TypeId) : Prop := ∀ (L : List Sh) (us vs : List Value) (w : World), leafs P e T = some L → kindsV L us → kindsV L vs →
  (Op.equalIn (k + e) T (.agg us.toArray) (.agg vs.toArray)).run P w = .ok (eqV us vs) w

theorem flat_fields (e k : Nat) (rec : TypeId → Bool) (hrec : ∀ T, rec T = true → FlatEq P e k T) (w : World) (us vs : List Value) : ∀ (fs : List Field) (n : Nat) (L : List Sh), flatF P rec e fs n = true →
    fs.foldr (fun f acc => match leafs P e f.type, acc with | some a, some b => some (a ++ b) | _, _ => none) (some []) = some L → kindsV L (us.drop n) → kindsV L (vs.drop n) →
    (Op.eqFields (k + e) us.toArray vs.toArray fs).run P w = .ok (eqV (us.drop n) (vs.drop n)) w
  | [], n, L, _, hL, hu, hv => by
    simp only [List.foldr_nil, Option.some.injEq] at hL
    subst hL
    cases h : us.drop n with
    | nil => simp [Op.eqFields, eqV]
    | cons x l => rw [h] at hu; exact hu.elim
  | f :: fs, n, L, hf, hL, hu, hv => by
    simp only [flatF, Bool.and_eq_true, bne_iff_ne, ne_eq, beq_iff_eq] at hf
    obtain ⟨⟨⟨hname, hoff⟩, hty⟩, hrest⟩ := hf
    simp only [List.foldr_cons] at hL
    split at hL
    case h_2 => cases hL
    rename_i a L' ha hL'
    simp only [Option.some.injEq] at hL
    subst hL
    rw [ha] at hrest
    simp only [Bool.and_eq_true, beq_iff_eq] at hrest
    obtain ⟨hcells, hrest⟩ := hrest
    obtain ⟨u1, u2, u3⟩ := kindsV_app a L' _ hu
    obtain ⟨v1, v2, v3⟩ := kindsV_app a L' _ hv
    rw [List.drop_drop] at u2 v2
    have ih := flat_fields e k rec hrec w us vs fs (n + a.length) L' hrest hL' u2 v2
    have hus : us.drop n = (us.drop n).take a.length ++ us.drop (n + a.length) := by
      rw [← List.drop_drop, List.take_append_drop]
    have hvs : vs.drop n = (vs.drop n).take a.length ++ vs.drop (n + a.length) := by
      rw [← List.drop_drop, List.take_append_drop]
    have hev : eqV (us.drop n) (vs.drop n) = (eqV ((us.drop n).take a.length) ((vs.drop n).take a.length) && eqV (us.drop (n + a.length)) (vs.drop (n + a.length))) := by
      rw [hus, hvs]
      have := eqV_app a ((us.drop n).take a.length) ((vs.drop n).take a.length) (us.drop (n + a.length)) (vs.drop (n + a.length)) u1 v1
      rw [← hus, ← hvs] at this ⊢
      exact this
    rw [hev]
    -- the field's value
    suffices hx : ∃ x y, (part f.type us.toArray f.offset).run P w = .ok x w ∧ (part f.type vs.toArray f.offset).run P w = .ok y w ∧ (Op.equalIn (k + e) f.type x y).run P w = .ok (eqV ((us.drop n).take a.length) ((vs.drop n).take a.length)) w by
      obtain ⟨x, y, p1, p2, p3⟩ := hx
      simp only [Op.eqFields, hname, ne_eq, not_false_eq_true, if_true, Sem.run_bind, p1, p2, p3, Result.andThen_ok, Sem.run_ite]
      cases h : eqV ((us.drop n).take a.length) ((vs.drop n).take a.length)
      · simp
      · simpa using ih
    have he : ∃ e', e = e' + 1 := by
      cases e with
      | zero => simp [leafs] at ha
      | succ e' => exact ⟨e', rfl⟩
    obtain ⟨e', rfl⟩ := he
    have one : ∀ (l : List Value), ((l.drop n).take 1).length = 1 → ∃ x, (l.drop n).take 1 = [x] ∧ l[n]? = some x := by
      intro l hl
      cases h : l.drop n with
      | nil => rw [h] at hl; simp at hl
      | cons x r =>
        refine ⟨x, rfl, ?_⟩
        have := congrArg (fun l => l[0]?) h
        simpa using this
    split at hty
    · rename_i kk hk
      have ha' : a = [.int kk] := by
        simp only [leafs, hk, Option.some.injEq] at ha
        exact ha.symm
      subst ha'
      obtain ⟨x, x1, x2⟩ := one us u3
      obtain ⟨y, y1, y2⟩ := one vs v3
      simp only [List.length_cons, List.length_nil, Nat.zero_add] at u1 v1 ⊢
      rw [x1] at u1 ⊢
      rw [y1] at v1 ⊢
      cases x <;> try exact u1.elim
      cases y <;> try exact v1.elim
      obtain ⟨rfl, _⟩ := u1
      obtain ⟨rfl, _⟩ := v1
      have p1 : ∀ (l : List Value) (x : Value), l[n]? = some x → (part f.type l.toArray f.offset).run P w = .ok x w := by
        intro l x h
        rw [hoff]
        have : l.toArray[n]? = some x := by simpa using h
        simp [part, isAgg, run_underlying hk, this]
      refine ⟨_, _, p1 us _ x2, p1 vs _ y2, ?_⟩
      rw [show k + (e' + 1) = (k + e') + 1 from rfl, run_equalIn_int w (k + e') f.type _ _ _ _ hk]
      simp [eqV]
    · rename_i hk
      have ha' : a = [.bool] := by
        simp only [leafs, hk, Option.some.injEq] at ha
        exact ha.symm
      subst ha'
      obtain ⟨x, x1, x2⟩ := one us u3
      obtain ⟨y, y1, y2⟩ := one vs v3
      simp only [List.length_cons, List.length_nil, Nat.zero_add] at u1 v1 ⊢
      rw [x1] at u1 ⊢
      rw [y1] at v1 ⊢
      cases x <;> try exact u1.elim
      cases y <;> try exact v1.elim
      have p1 : ∀ (l : List Value) (x : Value), l[n]? = some x → (part f.type l.toArray f.offset).run P w = .ok x w := by
        intro l x h
        rw [hoff]
        have : l.toArray[n]? = some x := by simpa using h
        simp [part, isAgg, run_underlying hk, this]
      refine ⟨_, _, p1 us _ x2, p1 vs _ y2, ?_⟩
      rw [show k + (e' + 1) = (k + e') + 1 from rfl, run_equalIn_bool' w (k + e') f.type _ _ hk]
      simp [eqV]
    · rename_i gs hk
      rw [Bool.and_eq_true] at hty
      obtain ⟨inf, hinf⟩ := Option.isSome_iff_exists.1 hty.2
      have hsz : P.cellsOf f.type = inf.size := cellsOf_info hinf
      have p1 : ∀ (l : List Value), (part f.type l.toArray f.offset).run P w = .ok (.agg ((l.drop n).take a.length).toArray) w := by
        intro l
        rw [hoff]
        have hag : (isAgg f.type).run P w = .ok true w := by simp [isAgg, run_underlying hk]
        have : l.toArray.extract n (n + inf.size) = ((l.drop n).take a.length).toArray := by
          apply Array.toList_inj.1
          rw [Array.toList_extract]
          simp [List.extract_eq_take_drop, ← hcells, hsz]
        rw [← hsz, hcells] at this
        simp [part, hag, run_sizeOf hinf, ← hsz, hcells]
      exact ⟨_, _, p1 us, p1 vs, hrec f.type hty.1 a _ _ w ha u1 v1⟩
    · cases hty

theorem flat_eq : ∀ (e k : Nat) (T : TypeId), flatT P e T = true → FlatEq P e k T
  | 0, _, _, h => by simp [flatT] at h
  | e + 1, k, T, h => by
    intro L us vs w hL hu hv
    unfold flatT at h
    split at h
    · rename_i fs hfs
      simp only [Bool.and_eq_true, Bool.not_eq_true'] at h
      have hfo : P.fieldsOf T = fs := by simp only [Program.fieldsOf, hfs]
      rw [show k + (e + 1) = (k + e) + 1 from rfl, run_equalIn_struct w (k + e) T _ _ (by rw [hfo]; exact hfs) h.2, hfo]
      have := flat_fields e k (flatT P e) (fun T' h' => flat_eq e k T' h') w us vs fs.toList 0 L h.1 (by
        rw [leafs] at hL
        simp only [hfs] at hL
        exact hL) (by simpa using hu) (by simpa using hv)
      simpa using this
    · cases h

theorem plain_of {plain : List TypeId} (h : plain.all (flatB P) = true) : PlainSound P plain := by
  intro T hT
  rw [List.all_eq_true] at h
  have hf := h T hT
  unfold flatB at hf
  simp only [Bool.and_eq_true, Bool.not_eq_true'] at hf
  exact ⟨hf.2, fun L hL us vs hu hv w => flat_eq 8 9992 T hf.1 L us vs w hL hu hv⟩

end

end Go.AM
end

section
namespace Go.AM

def envL (l : List V) : Nat → V := fun n => (l[n]?).getD (.i 0)

theorem envL_at (l : List V) (n : Nat) : envL l n = (l[n]?).getD (.i 0) := rfl

abbrev I (z : Int) : AV := .val (.int .i64 z)
abbrev B (b : Bool) : AV := .val (.bool b)

theorem wrap_of {z : Int} (h1 : -(2 ^ 63 : Int) ≤ z) (h2 : z < 2 ^ 63) : IntKind.i64.wrap z = z := by
  have e : (2 : Int) ^ 63 = 9223372036854775808 := by decide
  rw [e] at h1 h2
  simp only [IntKind.wrap]
  have : IntKind.i64.signed = true := rfl
  simp [this, IntKind.bits]
  omega

theorem wrapu_of {z : Int} (h1 : 0 ≤ z) (h2 : z < 2 ^ 64) : IntKind.u64.wrap z = z := by
  have e : (2 : Int) ^ 64 = 18446744073709551616 := by decide
  rw [e] at h2
  simp only [IntKind.wrap]
  have : IntKind.u64.signed = false := rfl
  simp [this, IntKind.bits]
  omega

theorem add_i {a b : Int} (h1 : -(2 ^ 63 : Int) ≤ a + b) (h2 : a + b < 2 ^ 63) : iop .add .i64 a b = a + b := wrap_of h1 h2
theorem sub_i {a b : Int} (h1 : -(2 ^ 63 : Int) ≤ a - b) (h2 : a - b < 2 ^ 63) : iop .sub .i64 a b = a - b := wrap_of h1 h2
theorem mul_i {a b : Int} (h1 : -(2 ^ 63 : Int) ≤ a * b) (h2 : a * b < 2 ^ 63) : iop .mul .i64 a b = a * b := wrap_of h1 h2

theorem shl1 {b : Int} (h2 : b ≤ 62) : iop .shl .i64 1 b = 2 ^ b.toNat := by
  have hb : b.toNat ≤ 62 := by omega
  have hle : (2 : Int) ^ b.toNat ≤ 2 ^ 62 := by
    have := Nat.pow_le_pow_right (n := 2) (by omega) hb
    exact_mod_cast this
  have hpos : (0 : Int) < 2 ^ b.toNat := by
    have := Nat.pow_pos (n := b.toNat) (show 0 < 2 by omega)
    exact_mod_cast this
  have e62 : (2 : Int) ^ 62 = 4611686018427387904 := by decide
  have e63 : (2 : Int) ^ 63 = 9223372036854775808 := by decide
  have hmin : min b.toNat IntKind.i64.bits = b.toNat := by
    have : IntKind.i64.bits = 64 := rfl
    omega
  simp only [iop, hmin, Int.one_mul]
  rw [wrap_of (by omega) (by omega)]

theorem pow_pos2 (n : Nat) : (0 : Int) < 2 ^ n := by
  have := Nat.pow_pos (n := n) (show 0 < 2 by omega)
  exact_mod_cast this

theorem pow_le2 {m n : Nat} (h : m ≤ n) : (2 : Int) ^ m ≤ 2 ^ n := by
  have := Nat.pow_le_pow_right (n := 2) (by omega) h
  exact_mod_cast this

theorem bind_envL (l vs : List V) (n : Nat) (h : l.length = n) : bind (envL l) n vs = envL (l ++ vs) := by
  funext m
  unfold bind envL
  subst h
  split
  · rename_i hm
    rw [List.getElem?_append_left hm]
  · rename_i hm
    rw [List.getElem?_append_right (by omega), List.getElem?_eq_none (l := l) (by omega)]
    cases vs[m - l.length]? <;> rfl

theorem cop_lss_t (a b : Int) : (cop .lss a b = true) = (a < b) := by simp [cop]
theorem cop_lss_f (a b : Int) : (cop .lss a b = false) = (b ≤ a) := by simp [cop]
theorem cop_leq_t (a b : Int) : (cop .leq a b = true) = (a ≤ b) := by simp [cop]
theorem cop_leq_f (a b : Int) : (cop .leq a b = false) = (b < a) := by simp [cop]
theorem cop_gtr_t (a b : Int) : (cop .gtr a b = true) = (b < a) := by simp [cop]
theorem cop_gtr_f (a b : Int) : (cop .gtr a b = false) = (a ≤ b) := by simp [cop]
theorem cop_geq_t (a b : Int) : (cop .geq a b = true) = (b ≤ a) := by simp [cop]
theorem cop_geq_f (a b : Int) : (cop .geq a b = false) = (a < b) := by simp [cop]
theorem cop_eql_t (a b : Int) : (cop .eql a b = true) = (a = b) := by simp [cop]
theorem cop_eql_f (a b : Int) : (cop .eql a b = false) = (a ≠ b) := by simp [cop]
theorem cop_neq_t (a b : Int) : (cop .neq a b = true) = (a ≠ b) := by simp [cop]
theorem cop_neq_f (a b : Int) : (cop .neq a b = false) = (a = b) := by simp [cop]
theorem val_bool (x y : Bool) : (AV.val (.bool x) = AV.val (.bool y)) = (x = y) := by simp
theorem val_int (k : IntKind) (x y : Int) : (AV.val (.int k x) = AV.val (.int k y)) = (x = y) := by simp
theorem bool_iff (x y : Bool) : (x = y) = (x = true ↔ y = true) := by cases x <;> cases y <;> simp

end Go.AM
end

section
namespace Go.AM

section
variable {P : Program} {E : Env}

theorem callOk_ofR {R : AV → List AV → Prop} (hm : P.follows .mixedOrders = true) (hps : PlainSound P E.plain) {f : FuncId} {fn : Func} (hf : P.funcs[f]? = some fn) (hname : (fn.name == "runtime.NumGoroutine") = false) {args : List SV} {n : Nat} {ρ : Nat → V}
    (hargs : ∀ a ∈ args, a.bd n) {res : AV} {outs : List AV} (hR : ∀ r os, R r os → SlotsW P (os ++ [r]) (outs ++ [res])) (h : (evFn P E fn args n).wp P R (fun _ _ => False) ρ) : CallOk P f (args.map (SV.den ρ)) res outs := by
  unfold evFn at h
  split at h
  case h_2 => exact h.elim
  rename_i code hbody
  dsimp only at h
  split at h
  case isFalse => exact h.elim
  rename_i hh
  obtain ⟨hnt, hnm, hal, hng, haf⟩ := hh
  have hat := argsFine_at args 0 haf
  refine ⟨⟨fn, hf, hname, by rw [hbody]; rfl⟩, ?_⟩
  intro w lim X cargs hcl hrel hdist hsize
  rw [List.length_map] at hcl
  have hgl : ∀ (as : List SV) (i : Nat), argsFine E as i = true → i + as.length ≤ E.nt + ((as.map (SV.den ρ)).countP AV.isG) ∨ as.length ≤ (as.map (SV.den ρ)).countP AV.isG := by
    intro as
    induction as with
    | nil => intro i _; exact .inr (Nat.zero_le _)
    | cons a as ih =>
      intro i hf
      have h0 := argsFine_at (a :: as) i hf 0 a rfl
      have hd : (a.den ρ).isG = a.isG := by cases a <;> first | rfl | (rename_i x; cases x <;> rfl)
      rw [List.map_cons, List.countP_cons, hd, List.length_cons]
      by_cases hg : a.isG = true
      · rw [if_pos hg]
        rcases ih (i + 1) (argsFine_tail hf) with h1 | h1
        · left; omega
        · right; omega
      · rw [if_neg hg]
        have h2 : i < E.nt := by
          rcases Nat.lt_or_ge i E.nt with h | h
          · exact h
          · exact (hg (h0.2.2 (by simpa using h))).elim
        rcases ih (i + 1) (argsFine_tail hf) with h1 | h1
        · left; omega
        · left; omega
  have hcn : cargs.length ≤ E.nt := by
    rcases hgl args 0 haf with h1 | h1 <;> omega
  have hcd : ∀ d, d < args.length → (∃ a, args[d]? = some a) := fun d hd => ⟨_, List.getElem?_eq_getElem hd⟩
  refine calls_of_wp hf hbody ?_
  let c : Ctx := ⟨P, w, lim, fun b => ∃ i k, X i k = some b, E.nt, fun d => match args[d]? with | some (.box _) => some (cargs.getD d undef) | _ => none, fun d => match args[d]? with | some (.gbox _) => X d 0 | _ => none⟩
  have hlow : usLow E (argUps args 0) := by
    unfold usLow
    rw [List.all_eq_true]
    intro u hu
    have := argUps_low args 0 E.top (by omega) u hu
    simpa using this
  have hσ : sden E (applyU (argUps args 0) (.leaf .dead)) ρ = argS (args.map (SV.den ρ)) := by
    rw [sden_applyU hnt ρ _ _ hlow]
    funext d
    rw [argUps_den, Nat.zero_add, Nat.sub_zero]
    split
    · rfl
    · rename_i hd
      have h1 : sden E (.leaf .dead) ρ d = .dead := by
        simp only [sden, gE]
        split <;> rfl
      have h2 : (args.map (SV.den ρ))[d]? = none := List.getElem?_eq_none (by rw [List.length_map]; omega)
      rw [h1]
      simp only [argS, h2]
      rfl
  have htm : ∀ d, (cargs.toArray ++ Array.replicate (fn.ntmps - cargs.toArray.size) undef).getD d undef = cargs.getD d undef := by
    intro d
    rw [List.getD_eq_getElem?_getD, Array.getD_eq_getD_getElem?, Array.getElem?_append]
    simp only [List.size_toArray, List.getElem?_toArray]
    split
    · rfl
    · rename_i h1
      rw [List.getElem?_eq_none (by omega), Array.getElem?_replicate]
      split <;> rfl
  have hpin : ∀ d v, c.pin d = some v → (∃ cs, args[d]? = some (.box cs)) ∧ v = cargs.getD d undef := by
    intro d v hv
    have hv' : (match args[d]? with | some (.box _) => some (cargs.getD d undef) | _ => none) = some v := hv
    split at hv'
    · rename_i cs hcs
      simp only [Option.some.injEq] at hv'
      exact ⟨⟨cs, hcs⟩, hv'.symm⟩
    · cases hv'
  have hsim : Sim c (sden E (applyU (argUps args 0) (.leaf .dead)) ρ) (cargs.toArray ++ Array.replicate (fn.ntmps - cargs.toArray.size) undef) w lim X := by
    rw [hσ]
    have hG : ∀ d, (argS (args.map (SV.den ρ)) d).isG = true ↔ ∃ cs, args[d]? = some (.gbox cs) := by
      intro d
      cases ha : args[d]? with
      | none =>
        have h2 : (args.map (SV.den ρ))[d]? = none := by rw [List.getElem?_map, ha]; rfl
        simp only [argS, h2]
        exact ⟨fun h => (by cases h), fun ⟨_, h⟩ => (by cases h)⟩
      | some a =>
        have h2 : argS (args.map (SV.den ρ)) d = a.den ρ := by simp only [argS, List.getElem?_map, ha]; rfl
        rw [h2]
        cases a with
        | gbox cs => exact ⟨fun _ => ⟨cs, rfl⟩, fun _ => rfl⟩
        | c x => exact ⟨fun h => (by cases x <;> cases h), fun ⟨_, h⟩ => (by cases h)⟩
        | _ => exact ⟨fun h => (by cases h), fun ⟨_, h⟩ => (by cases h)⟩
    refine ⟨fun d => by rw [htm d]; exact hrel d, ?_, fun d hd => ?_, fun d hd => ?_, hdist, fun d k b hb => ⟨hsize d k b hb, .inl ⟨d, k, hb⟩⟩, ⟨rfl, rfl, rfl, Nat.le_refl _, fun _ => rfl, fun _ _ _ => ⟨rfl, rfl⟩, Ext.refl w lim⟩, fun d v hv => ?_, fun d b hb => ?_⟩
    · show _ = E.nt
      simp
      omega
    · cases ha : args[d]? with
      | none =>
        left
        have h2 : (args.map (SV.den ρ))[d]? = none := by rw [List.getElem?_map, ha]; rfl
        simp only [argS, h2]
        rfl
      | some a =>
        right
        have h3 := (hat d a ha).2.2 (by rw [Nat.zero_add]; exact hd)
        refine (hG d).2 ?_
        cases a <;> simp [SV.isG] at h3
        exact ⟨_, ha⟩
    · obtain ⟨cs, hcs⟩ := (hG d).1 hd
      have := (hat d _ hcs).2.1 rfl
      rwa [Nat.zero_add] at this
    · obtain ⟨⟨cs, hcs⟩, rfl⟩ := hpin d v hv
      refine ⟨htm d, cs.map (BC.den ρ), ?_⟩
      simp only [argS, List.getElem?_map, hcs]
      rfl
    · have hb' : (match args[d]? with | some (.gbox _) => X d 0 | _ => none) = some b := hb
      split at hb'
      · rename_i cs hcs
        exact ⟨hb', (hG d).2 ⟨cs, hcs⟩⟩
      · cases hb'
  have hfin : ∀ s' n' ρ' (A' : Nat → List V → Prop), stBd E s' n' → ((match resOf P (gE E (giveAll E s' fn.results.toList)) fn.results.toList with
      | some r => if resFine args fn.results.toList = true then STree.ret r (outOf (gE E (giveAll E s' fn.results.toList)) args 0) else .stuck 124
      | none => .stuck 120) : STree).wp P R A' ρ' → ∀ tm' w' lim' X', Sim c (sden E s' ρ') tm' w' lim' X' → ∃ v, (results fn tm').run P w' = .ok v w' ∧
        ∃ v1 lim1 X1, Ending.returned v = .returned v1 ∧ WStep w lim w' lim1 (fun b => ∃ i k, X i k = some b) ∧ outs.length = (args.map (SV.den ρ)).length ∧
          (∀ i, SlotR P w' lim1 X1 (argS (outs ++ [res])) i (argS (outs ++ [res]) i) (retAt (args.map (SV.den ρ)).length cargs v1 i)) ∧ Dist X1 ∧
          (∀ i k b, X1 i k = some b → b < w'.heap.size ∧ ((∃ i k, X i k = some b) ∨ w.heap.size ≤ b)) ∧ ∀ i, (argS (outs ++ [res]) i).isG = true → (argS (args.map (SV.den ρ)) i).isG = true ∧ X1 i 0 = X i 0 := by
    intro s0 n' ρ' A' _ h' tm' w' lim0 X0 hsim0
    obtain ⟨lim', X', hsim'⟩ := giveAll_sim hnt (c := c) rfl (fun d v hv => by
      obtain ⟨⟨cs, hcs⟩, _⟩ := hpin d v hv
      have := (hat d _ hcs).1 cs rfl
      rwa [Nat.zero_add] at this) fn.results.toList hsim0
    generalize giveAll E s0 fn.results.toList = s' at h' hsim'
    split at h'
    case h_2 => exact h'.elim
    rename_i r hr
    split at h'
    case isFalse => exact h'.elim
    rename_i hfine
    obtain ⟨res0, hres⟩ : ∃ y, SV.den ρ' r = y := ⟨_, rfl⟩
    obtain ⟨outs0, houts⟩ : ∃ y, (outOf (gE E s') args 0).map (SV.den ρ') = y := ⟨_, rfl⟩
    have hww := hR _ _ h'
    rw [hres, houts] at hww
    suffices hz : ∃ v, (results fn tm').run P w' = .ok v w' ∧
        ∃ v1 lim1 X1, Ending.returned v = .returned v1 ∧ WStep w lim w' lim1 (fun b => ∃ i k, X i k = some b) ∧ outs0.length = (args.map (SV.den ρ)).length ∧
          (∀ i, SlotR P w' lim1 X1 (argS (outs0 ++ [res0])) i (argS (outs0 ++ [res0]) i) (retAt (args.map (SV.den ρ)).length cargs v1 i)) ∧ Dist X1 ∧
          (∀ i k b, X1 i k = some b → b < w'.heap.size ∧ ((∃ i k, X i k = some b) ∨ w.heap.size ≤ b)) ∧ ∀ i, (argS (outs0 ++ [res0]) i).isG = true → (argS (args.map (SV.den ρ)) i).isG = true ∧ X1 i 0 = X i 0 by
      obtain ⟨v, hrun, v1, lim1, X1, he, hst, hol, hr, hd, hin, hgh⟩ := hz
      obtain ⟨X3, k1, k3, k2⟩ := slots_weak hr hww
      have hX3 : ∀ i k b, X3 i k = some b → X1 i k = some b := by
        intro i k b hb
        rcases k1 i k with e | e
        · rw [← e]; exact hb
        · rw [e] at hb; cases hb
      have hll : outs0.length = outs.length := by have := hww.1; simpa using this
      refine ⟨v, hrun, v1, lim1, X3, he, hst, by rw [← hll, hol], k2, dist_weak hd k1, fun i k b hb => hin i k b (hX3 i k b hb), fun i hi => ?_⟩
      obtain ⟨m1, m2⟩ := hgh i (slotsW_G hww hi)
      exact ⟨m1, by rw [k3 i (isG_isB hi), m2]⟩
    -- the value
    have hval : ∃ v, (results fn tm').run P w' = .ok v w' ∧ SlotR P w' lim' (fun i k => (srcX args fn.results.toList i k).bind fun p => X' p.1 p.2) (argS (outs0 ++ [res0])) args.length res0 v := by
      have hrow : ∀ k, srcX args fn.results.toList args.length k = match fn.results.toList with
          | [r] => if k = 0 then some (resSlot r, resIx r) else none
          | rs => match k with | 0 => none | k + 1 => (rs[k]?).map fun r => (resSlot r, resIx r) := by
        intro k
        unfold srcX
        rw [if_neg (Nat.lt_irrefl _), if_pos rfl]
        all_goals rfl
      unfold resOf at hr
      split at hr
      · rename_i r0 hrs
        cases hx : resOne P (gE E s') r0 with
        | none => simp [hx] at hr
        | some x =>
          simp only [hx, Option.map_some, Option.some.injEq] at hr
          subst hr
          rw [tcSV_den] at hres
          subst hres
          obtain ⟨v, h1, h2⟩ := resOne_ok (c := c) rfl hsim' hx
          refine ⟨v, ?_, cellR_slotR ?_⟩
          · exact run_results (vs := [v]) (by rw [hrs]; rfl) fun i r' v' hr' hv' => by
              rw [hrs] at hr'
              cases i with
              | zero =>
                simp only [List.getElem?_cons_zero, Option.some.injEq] at hr' hv'
                subst hr'
                subst hv'
                exact h1
              | succ i => simp at hr'
          · show CellR P w' lim' ((srcX args fn.results.toList args.length 0).bind fun p => X' p.1 p.2) _ v
            rw [hrow, hrs]
            exact h2
      · rename_i hne
        cases hx : resAll P (gE E s') fn.results.toList with
        | none => simp [hx] at hr
        | some xs =>
          simp only [hx, Option.map_some, Option.some.injEq] at hr
          subst hr
          subst hres
          obtain ⟨vs, g1, g2, g3⟩ := resAll_ok (c := c) rfl hsim' _ _ hx
          have hne1 : ∀ v, vs ≠ [v] := by
            intro v hv
            rw [hv] at g1
            obtain ⟨r', hr'⟩ := List.length_eq_one_iff.1 g1
            exact hne r' hr'
          refine ⟨.tuple vs.toArray, ?_, ?_⟩
          · have := run_results g1 fun i r' v' hr' hv' => (g3 i r' v' hr' hv').1
            rw [this]
            rcases vs with _ | ⟨v, _ | ⟨u, l⟩⟩
            · rfl
            · exact (hne1 v rfl).elim
            · rfl
          · refine ⟨vs, rfl, by simp [g2], fun i y u hy hu => ?_⟩
            rw [List.getElem?_map] at hy
            cases hxi : xs[i]? with
            | none => simp [hxi] at hy
            | some x =>
              simp only [hxi, Option.map_some, Option.some.injEq] at hy
              subst hy
              obtain ⟨r', hr'⟩ : ∃ r', fn.results.toList[i]? = some r' := ⟨_, List.getElem?_eq_getElem (by rw [g1]; exact (List.getElem?_eq_some_iff.1 hu).1)⟩
              have h3 := (g3 i r' u hr' hu).2 x hxi
              have hsrc : srcX args fn.results.toList args.length (i + 1) = some (resSlot r', resIx r') := by
                rw [hrow]
                split
                · rename_i r1 hr1; exact (hne r1 hr1).elim
                · simp [hr']
              show CellR P w' lim' ((srcX args fn.results.toList args.length (i + 1)).bind fun p => X' p.1 p.2) _ u
              rw [hsrc]
              exact h3
    obtain ⟨v, hv1, hv2⟩ := hval
    have hol : outs0.length = args.length := by rw [← houts, List.length_map, outOf_len]
    have hrt : ∀ i, retAt (args.map (SV.den ρ)).length cargs v i = if i = args.length then v else cargs.getD i undef := by
      intro i
      unfold retAt
      rw [List.length_map]
    have hout : ∀ i, i < args.length → argS (outs0 ++ [res0]) i = match args[i]? with | some a => if a.isBx = true then sden E s' ρ' i else .dead | none => .dead := by
      intro i hi
      simp only [argS]
      rw [List.getElem?_append_left (by omega), ← houts, List.getElem?_map, outOf_at, Nat.zero_add]
      have := List.getElem?_eq_getElem hi
      rw [this]
      simp only [Option.map_some, Option.getD_some]
      split <;> rfl
    have hgpn : ∀ i cs, args[i]? = some (.gbox cs) → X' i 0 = X i 0 ∧ (sden E s' ρ' i).isG = true := by
      intro i cs hcs
      have hri := hrel i
      have h2 : argS (args.map (SV.den ρ)) i = .gbox (cs.map (BC.den ρ)) := by simp only [argS, List.getElem?_map, hcs]; rfl
      rw [h2] at hri
      obtain ⟨v', hp⟩ := hri
      obtain ⟨b, hb, _⟩ := plainR_ptr hp
      obtain ⟨g1, g2⟩ := hsim'.gpin i b (by show (match args[i]? with | some (.gbox _) => X i 0 | _ => none) = _; rw [hcs]; exact hb)
      exact ⟨by rw [g1, hb], g2⟩
    refine ⟨v, hv1, v, lim', fun i k => (srcX args fn.results.toList i k).bind fun p => X' p.1 p.2, rfl, ⟨hsim'.frm.os, hsim'.frm.tape, hsim'.frm.output, hsim'.frm.size, hsim'.frm.frz, hsim'.frm.blk, hsim'.frm.ext⟩, by rw [hol, List.length_map], fun i => ?_, fun d k d' k' b hb hb' => ?_, fun i k b hb => ?_, fun i hi => ?_⟩
    · rw [hrt]
      rcases Nat.lt_trichotomy i args.length with hi | hi | hi
      · rw [if_neg (by omega), hout i hi]
        obtain ⟨a, ha⟩ := hcd i hi
        rw [ha]
        dsimp only
        have hrow : a.isBx = true → (fun k => (srcX args fn.results.toList i k).bind fun p => X' p.1 p.2) = X' i := by
          intro hbx
          funext k
          unfold srcX
          rw [if_pos hi, ha, if_pos (by simp [hbx])]
          rfl
        cases a with
        | box cs =>
          rw [if_pos (show (SV.box cs).isBx = true from rfl)]
          obtain ⟨p1, cs', p2⟩ := hsim'.pin i (cargs.getD i undef) (by show (match args[i]? with | some (.box _) => some (cargs.getD i undef) | _ => none) = _; rw [ha])
          have hrl := hsim'.rel i
          rw [p2, p1] at hrl
          rw [p2]
          show BoxR P w' lim' (fun k => (srcX args fn.results.toList i k).bind fun p => X' p.1 p.2) cs' _
          rw [hrow rfl]
          exact hrl
        | gbox cs =>
          rw [if_pos (show (SV.gbox cs).isBx = true from rfl)]
          obtain ⟨_, g2⟩ := hgpn i cs ha
          have hrl := hsim'.rel i
          generalize sden E s' ρ' i = x at g2 hrl
          cases x <;> simp [AV.isG] at g2
          obtain ⟨v', hrl⟩ := hrl
          refine ⟨v', ?_⟩
          show PlainR P w' lim' (fun k => (srcX args fn.results.toList i k).bind fun p => X' p.1 p.2) _ v'
          rw [hrow rfl]
          exact hrl
        | _ => exact trivial
      · subst hi
        have hout : argS (outs0 ++ [res0]) args.length = res0 := by
          simp only [argS]
          rw [List.getElem?_append_right (by omega), hol]
          simp
        rw [if_pos rfl, hout]
        exact hv2
      · have hout : argS (outs0 ++ [res0]) i = .dead := by
          simp only [argS]
          rw [List.getElem?_eq_none (by simp; omega)]
          rfl
        rw [hout]
        trivial
    · cases hp : srcX args fn.results.toList d k with
      | none => simp [hp] at hb
      | some p =>
        cases hp' : srcX args fn.results.toList d' k' with
        | none => simp [hp'] at hb'
        | some p' =>
          simp only [hp, hp', Option.bind_some] at hb hb'
          obtain ⟨e1, e2⟩ := hsim'.dist _ _ _ _ b hb hb'
          have : p = p' := Prod.ext e1 e2
          subst this
          exact srcX_inj hfine hp hp'
    · cases hp : srcX args fn.results.toList i k with
      | none => simp [hp] at hb
      | some p =>
        simp only [hp, Option.bind_some] at hb
        exact hsim'.ours _ _ b hb
    · rcases Nat.lt_trichotomy i args.length with hl | hl | hl
      · rw [hout i hl] at hi
        obtain ⟨a, ha⟩ := hcd i hl
        rw [ha] at hi
        dsimp only at hi
        cases a with
        | gbox cs =>
          obtain ⟨g1, g2⟩ := hgpn i cs ha
          refine ⟨by simp only [argS, List.getElem?_map, ha]; rfl, ?_⟩
          show (srcX args fn.results.toList i 0).bind (fun p => X' p.1 p.2) = X i 0
          unfold srcX
          rw [if_pos hl, ha, if_pos (show (some (SV.gbox cs)).map SV.isBx = some true from rfl)]
          exact g1
        | box cs =>
          obtain ⟨p1, cs', p2⟩ := hsim'.pin i (cargs.getD i undef) (by show (match args[i]? with | some (.box _) => some (cargs.getD i undef) | _ => none) = _; rw [ha])
          rw [if_pos (show (SV.box cs).isBx = true from rfl), p2] at hi
          cases hi
        | _ => cases hi
      · subst hl
        have hres0 : argS (outs0 ++ [res0]) args.length = res0 := by
          simp only [argS]
          rw [List.getElem?_append_right (by omega), hol]
          simp
        rw [hres0, ← hres] at hi
        unfold resOf at hr
        split at hr
        · obtain ⟨x, _, rfl⟩ := Option.map_eq_some_iff.1 hr
          rw [tcSV_den] at hi
          cases x with
          | c y => cases y <;> cases hi
          | _ => cases hi
        · obtain ⟨x, _, rfl⟩ := Option.map_eq_some_iff.1 hr
          cases hi
      · have : argS (outs0 ++ [res0]) i = .dead := by
          simp only [argS]
          rw [List.getElem?_eq_none (by simp; omega)]
          rfl
        rw [this] at hi
        cases hi
  refine ev_sound hm hps hnt (c := c) rfl rfl (fun d v hv => ?_) (fun d b hb => ?_) code 0 n _ _ _ _ _ ρ _ w lim X _ ?_ h hsim ?_ ?_ ?_
  · obtain ⟨⟨cs, hcs⟩, _⟩ := hpin d v hv
    have := (hat d _ hcs).1 cs rfl
    rwa [Nat.zero_add] at this
  · have hb' : (match args[d]? with | some (.gbox _) => X d 0 | _ => none) = some b := hb
    split at hb'
    · rename_i cs hcs
      have h1 := (hat d _ hcs).2.1 rfl
      have h2 := (List.getElem?_eq_some_iff.1 hcs).1
      exact ⟨by omega, by omega⟩
    · cases hb'
  · refine stBd_applyU hnt _ _ hlow (fun d => ?_) (argUps_bd args 0 hargs)
    unfold gE
    split <;> trivial
  · intro s' n' ρ' A' _ hs' h' tm' w' lim' X' hsim'
    obtain ⟨v, h1, h2⟩ := hfin s' n' ρ' A' hs' h' tm' w' lim' X' hsim'
    exact ⟨rfl, v, h1, h2⟩
  · intro id s' n' ρ' A' _ hs' h'
    exact h'.elim
  · intro s' n' ρ' A' _ hs' h' tm' w' lim' X' hsim'
    obtain ⟨v, h1, h2⟩ := hfin s' n' ρ' A' hs' h' tm' w' lim' X' hsim'
    exact ⟨rfl, v, h1, h2⟩

end

end Go.AM
end
