/- AmCtl, AmFin, AmPlain, AmUse, AmRet, AmRun, AmRow, AmLift, AmSem: texts of the proof, put together. -/
import Derived.Test.YthdihcchfjlgkaaGreatM3
import Derived.LoopN
import Derived.Scope
import Derived.Laws.Cover3
import Derived.Laws.StructEq
import Derived.ChangeArms
import Derived.ChangeStays
import Derived.ChangeBook
import Derived.ChangeSame
import Derived.RowKit
import Derived.ChangeOld
import GoSem.ClaimJoined
import GoSem.ClaimOpenFrom
import Derived.KernelRfl

section
namespace Go.AM
theorem key_one : ∀ (hs : List (Nat × HP)) (d : Nat) (h h' : HP), (hs.map (·.1)).Nodup → (d, h) ∈ hs → (d, h') ∈ hs → h = h'
 | [], _, _, _, _, h, _ => by simp at h
 | p :: r, d, h, h', hn, h1, h2 => by
  rw [List.map_cons, List.nodup_cons] at hn
  rcases List.mem_cons.1 h1 with e1 | e1
  ·rcases List.mem_cons.1 h2 with e2 | e2
   ·rw [← e1] at e2
    exact (Prod.mk.inj e2).2.symm
   ·exact (hn.1 (by rw [← e1]; exact List.mem_map.2 ⟨_, e2, rfl⟩)).elim
  ·rcases List.mem_cons.1 h2 with e2 | e2
   ·exact (hn.1 (by rw [← e2]; exact List.mem_map.2 ⟨_, e1, rfl⟩)).elim
   ·exact key_one r d h h' hn.2 e1 e2
theorem lastV_mem : ∀ (us : List (Nat × AV)) (d : Nat) (x : AV), lastV us d = some x → (d, x) ∈ us
 | [], d, x, h => by simp [lastV] at h
 | (e, y) :: us, d, x, h => by
  simp only [lastV] at h
  cases hl : lastV us d with
  | some z =>
   rw [hl] at h
   simp only [Option.some.injEq] at h
   subst h
   exact List.mem_cons_of_mem _ (lastV_mem us d _ hl)
  | none =>
   rw [hl] at h
   simp only at h
   split at h
   ·rename_i hd
    simp only [Option.some.injEq] at h
    subst h
    subst hd
    exact List.mem_cons_self
   ·cases h
theorem place_spec {E : Env} {d : Nat} {h : HP} (hp : h.place E d = true) : d < E.top ∧ (h.isG = true ∨ d < E.nt) := by
 cases h <;> simp only [HP.place, Bool.and_eq_true, decide_eq_true_eq] at hp
 case gbox l => exact ⟨hp.2, .inl rfl⟩
 all_goals exact ⟨lt_top hp, .inr hp⟩
theorem headOk_spec {E : Env} {hs : List (Nat × HP)} (h : headOk E hs = true) : (hs.map (·.1)).Nodup ∧ (∀ p ∈ hs, p.1 < E.top ∧ (p.2.isG = true ∨ p.1 < E.nt)) ∧ ((∀ d d' o, (d, HP.ptr d' o) ∈ hs → ∃ l : HP, l.isBox = true ∧ (d', l) ∈ hs) ∧ ∀ d d' k, (d, HP.mref d' k) ∈ hs → ∃ l : HP, l.isPl k = true ∧ (d', l) ∈ hs) ∧
  (∀ d ∈ E.pins, ∃ l : HP, l.isBox = true ∧ (d, l) ∈ hs) ∧ (∀ d g ds, (d, HP.clo g ds) ∈ hs → ∀ d' ∈ ds, ∃ l : HP, (l.isBox || l.isG) = true ∧ (d', l) ∈ hs) ∧ ∀ d, E.nt ≤ d → d < E.top → ∃ l : HP, l.isG = true ∧ (d, l) ∈ hs := by
 have hany : ∀ (f : HP → Bool) (d : Nat), (hs.any fun q => decide (q.1 = d) && f q.2) = true → ∃ l : HP, f l = true ∧ (d, l) ∈ hs := by
  intro f d hd
  rw [List.any_eq_true] at hd
  obtain ⟨q, hq, hd⟩ := hd
  obtain ⟨q1, q2⟩ := q
  simp only [Bool.and_eq_true, decide_eq_true_eq] at hd
  obtain ⟨rfl, hd⟩ := hd
  exact ⟨_, hd, hq⟩
 simp only [headOk, Bool.and_eq_true] at h
 obtain ⟨⟨⟨h1, h2⟩, h3⟩, h4⟩ := h
 rw [List.all_eq_true] at h2 h3 h4
 refine ⟨nodupB_ok _ h1, fun p hp => ?_, ⟨fun d d' o hm => ?_, fun d d' k hm => ?_⟩, fun d hd => hany HP.isBox d (h3 d hd), fun d g ds hm d' hd' => ?_, fun d hd hd' => ?_⟩
 ·have := h2 p hp
  simp only [Bool.and_eq_true] at this
  exact place_spec this.1
 ·have := h2 _ hm
  simp only [Bool.and_eq_true] at this
  exact hany HP.isBox d' this.2
 ·have := h2 _ hm
  simp only [Bool.and_eq_true] at this
  exact hany (fun h => h.isPl k) d' this.2
 ·have := h2 _ hm
  simp only [Bool.and_eq_true] at this
  have h5 := this.2
  rw [List.all_eq_true] at h5
  exact hany (fun h => h.isBox || h.isG) d' (h5 d' hd')
 ·have := h4 (d - E.nt) (List.mem_range.2 (by have : E.top = E.nt + E.ng := rfl; omega))
  rw [show E.nt + (d - E.nt) = d by omega] at this
  exact hany HP.isG d this
theorem head_at {P : Program} {E : Env} (hnt : E.top ≤ 1024) {hs : List (Nat × HP)} (hok : headOk E hs = true) {s : Tr} {ρ ρ0 : Nat → V} {ves : List VE} (hv : headVals P (gE E s) hs = some ves) :
  (∀ d, d ∉ hs.map (·.1) → sden E (applyU (headUps hs 0).1 (.leaf .dead)) (bind ρ0 0 (ves.map (VE.den ρ))) d = .dead) ∧
  ∀ d h, (d, h) ∈ hs → ∃ m, sden E (applyU (headUps hs 0).1 (.leaf .dead)) (bind ρ0 0 (ves.map (VE.den ρ))) d = hpDen h (ves.map (VE.den ρ)) m ∧
   (RefW h (sden E s ρ d) ∨ SlotW P (sden E s ρ d) (hpDen h (ves.map (VE.den ρ)) m)) := by
 obtain ⟨k1, k2, k3, k4, k5, k6⟩ := headOk_spec hok
 obtain ⟨h1, h2, h3⟩ := headVals_at (P := P) (g := gE E s) (ρ := ρ) hs 0 ves [] hv rfl
 have hl : usLow E (headUps hs 0).1 := by
  unfold usLow
  rw [List.all_eq_true]
  intro u hu
  have hm : u.1 ∈ hs.map (·.1) := by rw [← h2]; exact List.mem_map.2 ⟨u, hu, rfl⟩
  obtain ⟨p, hp, he⟩ := List.mem_map.1 hm
  have := (k2 p hp).1
  rw [he] at this
  simpa using this
 have hdead : ∀ d, sden E (.leaf .dead) (bind ρ0 0 (ves.map (VE.den ρ))) d = .dead := by
  intro d
  simp only [sden, gE]
  split <;> rfl
 have hfst : ((headUps hs 0).1.map fun u => (u.1, u.2.den (bind ρ0 0 (ves.map (VE.den ρ))))).map (·.1) = hs.map (·.1) := by rw [List.map_map]; exact h2
 rw [sden_applyU hnt _ _ _ hl]
 refine ⟨fun d hd => ?_, fun d h hm => ?_⟩
 ·rw [updL_last, lastV_none _ d (by rw [hfst]; exact hd), hdead]
  rfl
 ·obtain ⟨x, hx⟩ := lastV_some ((headUps hs 0).1.map fun u => (u.1, u.2.den (bind ρ0 0 (ves.map (VE.den ρ))))) d (by rw [hfst]; exact List.mem_map.2 ⟨_, hm, rfl⟩)
  obtain ⟨u, hu, he⟩ := List.mem_map.1 (lastV_mem _ _ _ hx)
  simp only [Prod.mk.injEq] at he
  obtain ⟨rfl, rfl⟩ := he
  obtain ⟨h', g1, m, g2, g3, g4, g5⟩ := h3 u hu
  have : h' = h := key_one hs u.1 h' h k1 g1 hm
  subst this
  have hden : u.2.den (bind ρ0 0 (ves.map (VE.den ρ))) = hpDen h' (ves.map (VE.den ρ)) m := by
   rw [g2]
   refine hpAt_sh g4 fun j hj => ?_
   have hlt : m + j < (ves.map (VE.den ρ)).length := by rw [List.length_map]; omega
   have := Fill.bind ρ0 0 (ves.map (VE.den ρ)) (m + j) _ (List.getElem?_eq_getElem hlt)
   rw [Nat.zero_add] at this
   rw [this, vAt, List.getElem?_eq_getElem hlt]
   rfl
  refine ⟨m, ?_, ?_⟩
  ·rw [updL_last, hx, ← hden]
   rfl
  ·have := g5 []
   simp only [List.nil_append, List.append_nil] at this
   exact this
theorem shsDen_at : ∀ (l : List Sh) (us : List V) (j k : Nat) (s : Sh), l[k]? = some s → (shsDen l us j)[k]? = some (shDen s (vAt us (j + k)))
 | [], _, _, _, _, h => by simp at h
 | t :: ts, us, j, 0, s, h => by
  simp only [List.getElem?_cons_zero, Option.some.injEq] at h
  subst h
  rfl
 | t :: ts, us, j, k + 1, s, h => by
  have := shsDen_at ts us (j + 1) k s (by simpa using h)
  rw [show j + 1 + k = j + (k + 1) by omega] at this
  simpa [shsDen] using this
theorem isPl_den {h : HP} {k : Nat} (hk : h.isPl k = true) (us : List V) (m : Nat) : ∃ p, ownAt (hpDen h us m) k = some p := by
 unfold HP.isPl at hk
 split at hk
 ·exact ⟨_, rfl⟩
 ·rename_i l k
  split at hk
  ·rename_i e hl
   have := shsDen_at l us m k _ hl
   refine ⟨(e, (vAt us (m + k)).list), ?_⟩
   simp only [hpDen, ownAt, this, shDen]
  ·cases hk
 ·cases hk
theorem head_sim {P : Program} {E : Env} (hnt : E.top ≤ 1024) {c : Ctx} (hcP : c.P = P) (hcn : c.nt = E.nt) (hpin : ∀ d v, c.pin d = some v → d ∈ E.pins) (hgpin : ∀ d b, c.gpin d = some b → E.nt ≤ d ∧ d < E.top) {hs : List (Nat × HP)} (hok : headOk E hs = true) {s : Tr} {ρ : Nat → V} (ρ0 : Nat → V) {ves : List VE}
  (hv : headVals P (gE E s) hs = some ves) {tm : Array Value} {w : World} {lim : Nat → Nat} {X : Nat → Nat → Option Nat} (hsim : Sim c (sden E s ρ) tm w lim X) :
  ∃ X', Sim c (sden E (applyU (headUps hs 0).1 (.leaf .dead)) (bind ρ0 0 (ves.map (VE.den ρ)))) tm w lim X' := by
 obtain ⟨k1, k2, k3, k4, k5, k6⟩ := headOk_spec hok
 obtain ⟨h1, h2⟩ := head_at (P := P) hnt hok (ρ0 := ρ0) (ρ := ρ) hv
 have hbox : ∀ d (l : HP), l.isBox = true → (d, l) ∈ hs → ∃ cs, sden E (applyU (headUps hs 0).1 (.leaf .dead)) (bind ρ0 0 (ves.map (VE.den ρ))) d = .box cs := by
  intro d l hl hm
  obtain ⟨m, g1, _⟩ := h2 d _ hm
  cases l <;> simp [HP.isBox] at hl <;> exact ⟨_, g1⟩
 have hgb : ∀ d (l : HP), l.isG = true → (d, l) ∈ hs → (sden E (applyU (headUps hs 0).1 (.leaf .dead)) (bind ρ0 0 (ves.map (VE.den ρ))) d).isG = true := by
  intro d l hl hm
  obtain ⟨m, g1, _⟩ := h2 d _ hm
  rw [g1]
  cases l <;> simp [HP.isG] at hl <;> rfl
 refine hsim.head (fun d => ?_) (fun d hd => ?_) (fun d v hp => ?_) fun d b hp => ?_
 ·by_cases hm : d ∈ hs.map (·.1)
  ·obtain ⟨p, hp, rfl⟩ := List.mem_map.1 hm
   obtain ⟨m, g1, g2⟩ := h2 p.1 p.2 hp
   unfold HeadW
   rw [g1, hcP]
   rcases g2 with (⟨d', o, g2, g3⟩ | ⟨d', k, g2, g3⟩ | ⟨g, ds, g2, g3⟩) | g2
   ·obtain ⟨l, hl, hm⟩ := k3.1 p.1 d' o (by rw [← g2]; exact hp)
    exact .inr (.inl ⟨d', o, g3, by rw [g2]; rfl, hbox d' l hl hm⟩)
   ·obtain ⟨l, hl, hm⟩ := k3.2 p.1 d' k (by rw [← g2]; exact hp)
    obtain ⟨m', q1, _⟩ := h2 d' l hm
    exact .inr (.inr (.inl ⟨d', k, g3, by rw [g2]; rfl, by rw [q1]; exact isPl_den hl _ _⟩))
   ·refine .inr (.inr (.inr ⟨g, ds, g3, by rw [g2]; rfl, fun d' hd' => ?_⟩))
    obtain ⟨l, hl, hm⟩ := k5 p.1 g ds (by rw [← g2]; exact hp) d' hd'
    rw [Bool.or_eq_true] at hl
    rcases hl with hl | hl
    ·obtain ⟨cs, hcs⟩ := hbox d' l hl hm
     rw [hcs]; rfl
    ·exact isG_isB (hgb d' l hl hm)
   ·exact .inl g2
  ·unfold HeadW
   rw [h1 d hm]
   exact .inl .dead
 ·by_cases hm : d ∈ hs.map (·.1)
  ·obtain ⟨p, hp, rfl⟩ := List.mem_map.1 hm
   rcases (k2 p hp).2 with h3 | h3
   ·exact .inr (hgb p.1 p.2 h3 hp)
   ·omega
  ·exact .inl (h1 d hm)
 ·obtain ⟨l, hl, hm⟩ := k4 d (hpin d v hp)
  exact hbox d l hl hm
 ·obtain ⟨m1, m2⟩ := hgpin d b hp
  obtain ⟨l, hl, hm⟩ := k6 d m1 m2
  exact hgb d l hl hm
theorem nilTest_spec {ops : Array Oper} {x a d : Nat} {T : TypeId} {neg : Bool} (h : nilTest ops = some (x, a, d, T, neg)) :
  ∃ o p U, ops.toList = [o, p] ∧ o.guard = none ∧ p.guard = none ∧ o.op = .move (.tmp x) ∧ o.dst = some a ∧ p.op = .binOp (if neg = true then .neq else .eql) T (.tmp a) (.const (.slice none 0 0)) U ∧ p.dst = some d := by
 unfold nilTest at h
 split at h
 ·rename_i o p hops
  split at h
  ·rename_i hg
   simp only [Option.isNone_iff_eq_none] at hg
   split at h
   ·rename_i h1 h2 h3 h4
    split at h
    ·rename_i hb
     subst hb
     simp only [Option.some.injEq, Prod.mk.injEq] at h
     obtain ⟨rfl, rfl, rfl, rfl, rfl⟩ := h
     exact ⟨o, p, _, hops, hg.1, hg.2, h1, h2, by simpa using h3, h4⟩
    ·cases h
   ·rename_i h1 h2 h3 h4
    split at h
    ·rename_i hb
     subst hb
     simp only [Option.some.injEq, Prod.mk.injEq] at h
     obtain ⟨rfl, rfl, rfl, rfl, rfl⟩ := h
     exact ⟨o, p, _, hops, hg.1, hg.2, h1, h2, by simpa using h3, h4⟩
    ·cases h
   ·cases h
  ·cases h
 ·cases h
theorem clearTest_spec {ops : Array Oper} {x i a b c : Nat} {T : TypeId} (h : clearTest ops = some (x, i, a, b, c, T)) :
  ∃ o p q r, ops.toList = [o, p, q, r] ∧ o.guard = none ∧ p.guard = none ∧ q.guard = none ∧ r.guard = none ∧ o.op = .move (.tmp x) ∧ o.dst = some a ∧ p.op = .move (.tmp i) ∧ p.dst = some b ∧
   q.op = .slice T (.tmp a) (some (.tmp b)) none none ∧ q.dst = some c ∧ (∃ cl, r.op = .call cl ∧ cl.callee = .builtin .clear ∧ cl.args = #[.tmp c] ∧ cl.argTypes = #[T]) ∧ r.dst = none := by
 unfold clearTest at h
 split at h
 case h_2 => cases h
 rename_i o p q r hops
 split at h
 case isFalse => cases h
 rename_i hg
 simp only [Option.isNone_iff_eq_none] at hg
 split at h
 case h_2 => cases h
 rename_i x' a' i' b' h1 h2 h3 h4
 split at h
 case h_2 => cases h
 rename_i T' a'' b'' c' cl h5 h6 h7 h8
 split at h
 case h_2 => cases h
 rename_i c'' T'' h9 h10 h11
 split at h
 case isFalse => cases h
 rename_i he
 obtain ⟨e1, e2, e3, e4⟩ := he
 subst e1 e2 e3 e4
 simp only [Option.some.injEq, Prod.mk.injEq] at h
 obtain ⟨rfl, rfl, rfl, rfl, rfl, rfl⟩ := h
 exact ⟨o, p, q, r, hops, hg.1, hg.2.1, hg.2.2.1, hg.2.2.2, h1, h2, h3, h4, h5, h6, ⟨cl, h7, h9, by rw [← h10, Array.toArray_toList], by rw [← h11, Array.toArray_toList]⟩, h8⟩
theorem slice_form {P : Program} {w : World} {lim : Nat → Nat} {X : Nat → Nat → Option Nat} {σ : Nat → AV} {d : Nat} {x : SV} {l : LE} {ρ : Nat → V} {v : Value} (hx : nilLst x = some l) (h : SlotR P w lim X σ d (x.den ρ) v) :
  ∃ a k cap, v = .slice a k cap ∧ (a.isNone = true → l.den ρ = []) := by
 have hrep : ∀ f s, Rep w lim (.slice f s (l.den ρ)) v → ∃ a k cap, v = .slice a k cap ∧ (a.isNone = true → l.den ρ = []) := by
  intro f s hr
  have key : ∀ y, Rep w lim y v → y = .slice f s (l.den ρ) → ∃ a k cap, v = .slice a k cap ∧ (a.isNone = true → l.den ρ = []) := by
   intro y hy hye
   cases hy with
   | sliceN => injection hye with _ _ h3; exact ⟨none, 0, 0, rfl, fun _ => h3.symm⟩
   | sliceE _ => injection hye with _ _ h3; exact ⟨_, _, _, rfl, fun _ => h3.symm⟩
   | sliceC _ _ _ _ _ _ _ _ => exact ⟨_, _, _, rfl, fun h => by cases h⟩
   | val _ => cases hye
   | agg _ _ _ => cases hye
  exact key _ hr rfl
 unfold nilLst at hx
 split at hx
 ·simp only [Option.some.injEq] at hx
  subst hx
  exact hrep _ _ h
 ·simp only [Option.some.injEq] at hx
  subst hx
  rcases OwnR.sliceV (show OwnR P w lim _ _ _ v (X d 0) from h) with ⟨_, h1, h2 | ⟨a, h2⟩⟩ | ⟨b, arr, cap, _, _, _, h2⟩
  ·exact ⟨none, 0, 0, h2, fun _ => List.eq_nil_of_length_eq_zero h1⟩
  ·exact ⟨_, _, _, h2, fun h => by cases h⟩
  ·exact ⟨_, _, _, h2, fun h => by cases h⟩
 ·cases hx
theorem Sim.refit {c : Ctx} {σ σ' : Nat → AV} {tm : Array Value} {w : World} {lim lim' : Nat → Nat} {X : Nat → Nat → Option Nat} {S : Nat → Prop} (h : Sim c σ tm w lim X) (hw : WStep w lim w lim' S) (hS : ∀ b, S b → c.A b ∨ c.w0.heap.size ≤ b)
  (hrel : ∀ i, SlotR c.P w lim' X σ' i (σ' i) (tm.getD i undef)) (hout : ∀ i, c.nt ≤ i → σ' i = .dead ∨ (σ' i).isG = true) (hG : ∀ i, (σ' i).isG = (σ i).isG) (hB : ∀ i cs, σ i = .box cs → ∃ cs', σ' i = .box cs') : Sim c σ' tm w lim' X where
 rel := hrel
 size := h.size
 out := hout
 ghost d hd := h.ghost d (by rw [← hG]; exact hd)
 dist := h.dist
 ours := h.ours
 frm := h.frm.step hw hS
 pin d v hv := by
  obtain ⟨h1, cs, h2⟩ := h.pin d v hv
  exact ⟨h1, hB d cs h2⟩
 gpin d b hb := by
  obtain ⟨h1, h2⟩ := h.gpin d b hb
  exact ⟨h1, by rw [hG]; exact h2⟩
theorem Sim.freeze {c : Ctx} {σ : Nat → AV} {tm : Array Value} {w : World} {lim : Nat → Nat} {X : Nat → Nat → Option Nat} (h : Sim c σ tm w lim X) {d q : Nat} {e : TypeId} {xs : List (List AV)} {us : List (Nat × AV)} (hp : ownAt (σ d) q = some (e, xs))
  (hs0 : c.P.cellsOf e ≠ 0) (h1 : ∀ u ∈ us, u.1 ≠ d ∧ ((σ u.1 = .mref d q ∧ u.2 = .slice false (c.P.cellsOf e) xs) ∨ ((∃ o, σ u.1 = .eref d q o) ∧ u.2 = .dead))) (h2 : ∀ i, refsP (σ i) d q → i ∈ us.map (·.1)) :
  ∃ lim', Sim c (updL (upd σ d (placeSetS (σ d) q false e xs)) us) tm w lim' X := by
 obtain ⟨v0, ho⟩ := place_own h hp
 refine ⟨fun b => if X d q = some b then xs.length * c.P.cellsOf e else lim b, ?_⟩
 have hlim0 : ∀ b, X d q = some b → lim b = 0 := by
  intro b hb
  rw [hb] at ho
  obtain ⟨_, _, _, _, g, _⟩ := own_row ho
  exact g
 have hw : WStep w lim w (fun b => if X d q = some b then xs.length * c.P.cellsOf e else lim b) (fun b => X d q = some b) := by
  refine ⟨rfl, rfl, rfl, Nat.le_refl _, fun _ _ => rfl, fun b _ hb => ⟨rfl, if_neg hb⟩, fun b _ => ⟨?_, fun _ _ _ hu => hu⟩⟩
  show lim b ≤ if X d q = some b then xs.length * c.P.cellsOf e else lim b
  split
  ·rename_i hb; rw [hlim0 b hb]; exact Nat.zero_le _
  ·exact Nat.le_refl _
 have hnew : ∀ v, OwnR c.P w lim true e xs v (X d q) → OwnR c.P w (fun b => if X d q = some b then xs.length * c.P.cellsOf e else lim b) false e xs v (X d q) := by
  intro v hv
  rcases hv with ⟨ws, g1, g2, g3, g4, g5, g6⟩ | hv
  ·refine .inl ⟨ws, g1, g2, fun b hb => ?_, g4, g5, fun j z u hz hu => (g6 j z u hz hu).mono hw.ext⟩
   show (if X d q = some b then xs.length * c.P.cellsOf e else lim b) = _
   rw [if_pos hb, if_neg (by simp), g1.1]
  ·exact .inr hv
 have hkept : ∀ i k b, (i ≠ d ∨ k ≠ q) → X i k = some b → Kept w lim w (fun b => if X d q = some b then xs.length * c.P.cellsOf e else lim b) b := by
  intro i k b hik hb
  refine ⟨rfl, if_neg fun hb' => ?_⟩
  obtain ⟨e1, e2⟩ := h.dist i k d q b hb hb'
  exact hik.elim (fun h => h e1) fun h => h e2
 have hdu : d ∉ us.map (·.1) := by
  intro hm
  obtain ⟨u, hu, rfl⟩ := List.mem_map.1 hm
  exact (h1 u hu).1 rfl
 -- what stands where
 have hat : ∀ i, i ≠ d → (i ∉ us.map (·.1) ∧ updL (upd σ d (placeSetS (σ d) q false e xs)) us i = σ i) ∨
   (σ i = .mref d q ∧ updL (upd σ d (placeSetS (σ d) q false e xs)) us i = .slice false (c.P.cellsOf e) xs) ∨ ((∃ o, σ i = .eref d q o) ∧ updL (upd σ d (placeSetS (σ d) q false e xs)) us i = .dead) := by
  intro i hi
  rw [updL_last]
  by_cases hm : i ∈ us.map (·.1)
  ·obtain ⟨x, hx⟩ := lastV_some us i hm
   rw [hx]
   rcases (h1 _ (lastV_mem us i x hx)).2 with ⟨g1, g2⟩ | ⟨g1, g2⟩
   ·exact .inr (.inl ⟨g1, g2⟩)
   ·exact .inr (.inr ⟨g1, g2⟩)
  ·rw [lastV_none us i hm]
   exact .inl ⟨hm, upd_other _ _ hi⟩
 have hatd : updL (upd σ d (placeSetS (σ d) q false e xs)) us d = placeSetS (σ d) q false e xs := by
  rw [updL_last, lastV_none us d hdu]
  exact upd_same _ _ _
 have hdG : (placeSetS (σ d) q false e xs).isG = false ∧ (σ d).isG = false := by
  rcases ownAt_cases hp with ⟨g1, rfl⟩ | ⟨cs, k, g1, rfl, _⟩ <;> rw [g1] <;> exact ⟨rfl, rfl⟩
 have hdB : ∀ cs, σ d = .box cs → ∃ cs', placeSetS (σ d) q false e xs = .box cs' := by
  intro cs hcs
  rcases ownAt_cases hp with ⟨g1, rfl⟩ | ⟨cs', k, g1, rfl, _⟩
  ·rw [g1] at hcs; cases hcs
  ·rw [g1]; exact ⟨_, rfl⟩
 have hGall : ∀ i, (updL (upd σ d (placeSetS (σ d) q false e xs)) us i).isG = (σ i).isG := by
  intro i
  by_cases hi : i = d
  ·subst hi; rw [hatd, hdG.1, hdG.2]
  ·rcases hat i hi with ⟨_, g⟩ | ⟨g, g'⟩ | ⟨⟨o, g⟩, g'⟩
   ·rw [g]
   ·rw [g, g']; rfl
   ·rw [g, g']; rfl
 have hBall : ∀ i cs, σ i = .box cs → ∃ cs', updL (upd σ d (placeSetS (σ d) q false e xs)) us i = .box cs' := by
  intro i cs hcs
  by_cases hi : i = d
  ·subst hi; rw [hatd]; exact hdB cs hcs
  ·rcases hat i hi with ⟨_, g⟩ | ⟨g, g'⟩ | ⟨⟨o, g⟩, g'⟩
   ·exact ⟨cs, g.trans hcs⟩
   ·rw [g] at hcs; cases hcs
   ·rw [g] at hcs; cases hcs
 refine h.refit hw (fun b hb => (h.ours d q b hb).2) (fun i => ?_) (fun i hi => ?_) hGall hBall
 ·by_cases hi : i = d
  ·subst hi
   rw [hatd]
   have hr := h.rel i
   rcases ownAt_cases hp with ⟨g1, rfl⟩ | ⟨cs, k, g1, rfl, g2⟩
   ·rw [g1] at hr ⊢
    exact hnew _ hr
   ·rw [g1] at hr ⊢
    obtain ⟨b, arr, t, k1, k2, k3, k4, k5, k6, k7⟩ := (show PlainR c.P w lim (X i) cs _ from hr)
    refine ⟨b, arr, t, k1, k2, k3, by rw [List.length_set]; exact k4, ((hkept i 0 b (.inr (by omega)) k1).2).trans k5, fun x hx => ?_, fun j x u hx hu => ?_⟩
    ·rcases List.mem_or_eq_of_mem_set hx with hx | hx
     ·exact k6 x hx
     ·exact .inr ⟨_, _, _, hx⟩
    ·by_cases hj : j = k
     ·subst hj
      rw [List.getElem?_set_self (List.getElem?_eq_some_iff.1 g2).1] at hx
      simp only [Option.some.injEq] at hx
      subst hx
      exact hnew u (k7 j _ u g2 hu)
     ·rw [List.getElem?_set_ne (fun h => hj h.symm)] at hx
      exact (k7 j x u hx hu).mono hw.ext fun b' hb' => hkept i (j + 1) b' (.inr (by omega)) hb'
  ·rcases hat i hi with ⟨hm, g⟩ | ⟨g, g'⟩ | ⟨⟨o, g⟩, g'⟩
   ·rw [g]
    have hr := (h.rel i).mono hw.ext (fun k b hb => hkept i k b (.inl hi) hb) fun d' k b _ _ => .of rfl
    refine hr.chg rfl (fun d' cs hd' => ⟨hBall d' cs hd', rfl⟩) (fun d' hd' => ⟨by rw [hGall]; exact hd', rfl⟩) fun d' k hrf => ⟨?_, rfl⟩
    by_cases hdd : d' = d
    ·subst hdd
     rw [hatd]
     have hkq : k ≠ q := fun he => hm (h2 i (he ▸ hrf))
     intro e' ys hy
     rcases ownAt_cases hy with ⟨m1, rfl⟩ | ⟨cs, k', m1, rfl, m2⟩
     ·rcases ownAt_cases hp with ⟨_, h0⟩ | ⟨_, _, h0, _⟩
      ·exact (hkq h0.symm).elim
      ·rw [m1] at h0; cases h0
     ·rcases ownAt_cases hp with ⟨h0, _⟩ | ⟨cs2, q', h0, rfl, _⟩
      ·rw [m1] at h0; cases h0
      ·refine ⟨ys, ?_, rfl⟩
       rw [m1]
       simp only [placeSetS, ownAt]
       rw [List.getElem?_set_ne (by omega), m2]
    ·rcases hat d' hdd with ⟨_, m⟩ | ⟨m, m'⟩ | ⟨⟨o, m⟩, m'⟩
     ·rw [m]; exact PlKept.refl _ _
     ·intro e' ys hy
      rw [m] at hy; cases hy
     ·intro e' ys hy
      rw [m] at hy; cases hy
   ·rw [g']
    have hr := h.rel i
    rw [g] at hr
    obtain ⟨e', xs', k1, k2⟩ := hr
    rw [hp] at k1
    simp only [Option.some.injEq, Prod.mk.injEq] at k1
    obtain ⟨rfl, rfl⟩ := k1
    show Rep w _ _ _
    rcases k2 with ⟨_, k2, k3 | ⟨a, k3⟩⟩ | ⟨b, arr, cap, k2, k3, k4, k5⟩
    ·have : xs = [] := List.eq_nil_of_length_eq_zero k2
     subst this
     rw [k3]; exact .sliceN
    ·have : xs = [] := List.eq_nil_of_length_eq_zero k2
     subst this
     rw [k3]; exact .sliceE fun h => by cases h
    ·have ho' := ho
     rw [k2] at ho'
     obtain ⟨arr0, cap0, m1, m2, _, _, _, m6, _⟩ := own_row ho'
     rw [k3] at m2
     simp only [Option.some.injEq, Obj.cells.injEq, and_true] at m2
     subst m2
     have hcap : cap = cap0 := Nat.eq_of_mul_eq_mul_right (by omega) (k4.symm.trans m6)
     subst hcap
     rw [k5, ← m1]
     exact OwnR.rep (hnew v0 ho) false rfl
   ·rw [g']
    trivial
 ·by_cases hid : i = d
  ·subst hid
   rcases h.out i hi with h0 | h0
   ·rw [h0] at hp; cases hp
   ·rw [hdG.2] at h0; cases h0
  ·rcases hat i hid with ⟨_, g⟩ | ⟨g, _⟩ | ⟨⟨o, g⟩, _⟩
   ·rw [g]; exact h.out i hi
   ·rcases h.out i hi with h0 | h0 <;> rw [g] at h0 <;> cases h0
   ·rcases h.out i hi with h0 | h0 <;> rw [g] at h0 <;> cases h0
theorem seeUps_mem {P : Program} {g : Nat → SV} {d q : Nat} {e : TypeId} {l : LE} : ∀ (n : Nat) (u : Nat × SV), u ∈ seeUps P g d q e l n ↔ u.1 < n ∧ ((g u.1 = .mref d q ∧ u.2 = .c (.slice false (P.cellsOf e) l)) ∨ ((∃ i s o, g u.1 = .eref d q i s o) ∧ u.2 = .dead))
 | 0, u => by simp [seeUps]
 | n + 1, u => by
  have ih := seeUps_mem (P := P) (g := g) (d := d) (q := q) (e := e) (l := l) n u
  have up : ∀ {p : Prop}, (u.1 < n ∧ p) → (u.1 < n + 1 ∧ p) := fun h => ⟨by omega, h.2⟩
  simp only [seeUps]
  split
  ·rename_i d' q' hg
   split
   ·rename_i hh
    obtain ⟨rfl, rfl⟩ := hh
    rw [List.mem_cons, ih]
    constructor
    ·rintro (rfl | h)
     ·exact ⟨Nat.lt_succ_self n, .inl ⟨hg, rfl⟩⟩
     ·exact up h
    ·rintro ⟨h1, h2⟩
     by_cases hn : u.1 = n
     ·left
      obtain ⟨a, b⟩ := u
      simp only at hn h2
      subst hn
      rcases h2 with ⟨_, h2⟩ | ⟨⟨_, _, _, h2⟩, _⟩
      ·rw [h2]
      ·rw [hg] at h2; cases h2
     ·exact .inr ⟨by omega, h2⟩
   ·rename_i hh
    rw [ih]
    refine ⟨up, fun ⟨h1, h2⟩ => ⟨?_, h2⟩⟩
    by_cases hn : u.1 = n
    ·rw [hn, hg] at h2
     rcases h2 with ⟨h2, _⟩ | ⟨⟨_, _, _, h2⟩, _⟩
     ·cases h2; exact (hh ⟨rfl, rfl⟩).elim
     ·cases h2
    ·omega
  ·rename_i d' q' i s o hg
   split
   ·rename_i hh
    obtain ⟨rfl, rfl⟩ := hh
    rw [List.mem_cons, ih]
    constructor
    ·rintro (rfl | h)
     ·exact ⟨Nat.lt_succ_self n, .inr ⟨⟨_, _, _, hg⟩, rfl⟩⟩
     ·exact up h
    ·rintro ⟨h1, h2⟩
     by_cases hn : u.1 = n
     ·left
      obtain ⟨a, b⟩ := u
      simp only at hn h2
      subst hn
      rcases h2 with ⟨h2, _⟩ | ⟨_, h2⟩
      ·rw [hg] at h2; cases h2
      ·rw [h2]
     ·exact .inr ⟨by omega, h2⟩
   ·rename_i hh
    rw [ih]
    refine ⟨up, fun ⟨h1, h2⟩ => ⟨?_, h2⟩⟩
    by_cases hn : u.1 = n
    ·rw [hn, hg] at h2
     rcases h2 with ⟨h2, _⟩ | ⟨⟨_, _, _, h2⟩, _⟩
     ·cases h2
     ·cases h2; exact (hh ⟨rfl, rfl⟩).elim
    ·omega
  ·rename_i h1 h2
   rw [ih]
   refine ⟨up, fun ⟨g1, g2⟩ => ⟨?_, g2⟩⟩
   by_cases hn : u.1 = n
   ·rw [hn] at g2
    rcases g2 with ⟨g2, _⟩ | ⟨⟨_, _, _, g2⟩, _⟩
    ·exact (h1 _ _ g2).elim
    ·exact (h2 _ _ _ _ _ g2).elim
   ·omega
theorem freezeOne_sim {P : Program} {E : Env} (hnt : E.top ≤ 1024) {c : Ctx} (hcP : c.P = P) {s : Tr} {n : Nat} {ρ : Nat → V} (p : Nat × Nat) {tm : Array Value} {w : World} (hs : stBd E s n) (h : ∃ lim X, Sim c (sden E s ρ) tm w lim X) :
  stBd E (freezeOne P E s p) n ∧ ∃ lim X, Sim c (sden E (freezeOne P E s p) ρ) tm w lim X := by
 unfold freezeOne
 split
 ·rename_i e l hp
  split
  ·rename_i hh
   have hlow : usLow E ((p.1, placeSet (gE E s p.1) p.2 false e l) :: seeUps P (gE E s) p.1 p.2 e l E.top) := by
    unfold usLow
    rw [List.all_eq_true]
    intro u hu
    rcases List.mem_cons.1 hu with rfl | hu
    ·simpa using lt_top hh.1
    ·simpa using ((seeUps_mem E.top u).1 hu).1
   have hl := placeAt_bd hp (hs p.1)
   refine ⟨stBd_applyU hnt _ _ hlow hs fun u hu => ?_, ?_⟩
   ·rcases List.mem_cons.1 hu with rfl | hu
    ·exact placeSet_bd (hs p.1) hl
    ·rcases ((seeUps_mem E.top u).1 hu).2 with ⟨_, h2⟩ | ⟨_, h2⟩ <;> rw [h2]
     ·exact hl
     ·trivial
   ·obtain ⟨lim, X, hsim⟩ := h
    rw [sden_applyU hnt _ _ _ hlow]
    have hA : ∀ u ∈ ((seeUps P (gE E s) p.1 p.2 e l E.top).map fun u => (u.1, u.2.den ρ)), u.1 ≠ p.1 ∧ ((sden E s ρ u.1 = .mref p.1 p.2 ∧ u.2 = .slice false (c.P.cellsOf e) (l.den ρ)) ∨ ((∃ o, sden E s ρ u.1 = .eref p.1 p.2 o) ∧ u.2 = .dead)) := by
     intro u hu
     obtain ⟨v, hv, rfl⟩ := List.mem_map.1 hu
     have hne : v.1 ≠ p.1 := by
      intro he
      have h2 := ((seeUps_mem E.top v).1 hv).2
      rw [he] at h2
      rcases h2 with ⟨h2, _⟩ | ⟨⟨_, _, _, h2⟩, _⟩ <;> rw [h2] at hp <;> cases hp
     refine ⟨hne, ?_⟩
     rcases ((seeUps_mem E.top v).1 hv).2 with ⟨h1, h2⟩ | ⟨⟨i, s', o, h1⟩, h2⟩
     ·exact .inl ⟨by show (gE E s v.1).den ρ = _; rw [h1]; rfl, by rw [h2, hcP]; rfl⟩
     ·exact .inr ⟨⟨_, by show (gE E s v.1).den ρ = _; rw [h1]; rfl⟩, by rw [h2]; rfl⟩
    have hB : ∀ i, refsP (sden E s ρ i) p.1 p.2 → i ∈ ((seeUps P (gE E s) p.1 p.2 e l E.top).map fun u => (u.1, u.2.den ρ)).map (·.1) := by
     intro i hi
     rw [List.map_map]
     have hi' : refsP ((gE E s i).den ρ) p.1 p.2 := hi
     have hlt : i < E.top := by
      rcases Nat.lt_or_ge i E.top with h | h
      ·exact h
      ·rw [gE_top s i h] at hi'
       rcases hi' with h0 | ⟨_, h0⟩ <;> cases h0
     have hex : ∃ x, (i, x) ∈ seeUps P (gE E s) p.1 p.2 e l E.top := by
      cases hg : gE E s i with
      | mref d' q' =>
       rw [hg] at hi'
       rcases hi' with h0 | ⟨_, h0⟩ <;> cases h0
       exact ⟨_, (seeUps_mem E.top (i, _)).2 ⟨hlt, .inl ⟨hg, rfl⟩⟩⟩
      | eref d' q' a b o =>
       rw [hg] at hi'
       rcases hi' with h0 | ⟨_, h0⟩ <;> cases h0
       exact ⟨_, (seeUps_mem E.top (i, _)).2 ⟨hlt, .inr ⟨⟨_, _, _, hg⟩, rfl⟩⟩⟩
      | c y => rw [hg] at hi'; rcases hi' with h0 | ⟨_, h0⟩ <;> cases y <;> cases h0
      | _ => rw [hg] at hi'; rcases hi' with h0 | ⟨_, h0⟩ <;> cases h0
     obtain ⟨x, hx⟩ := hex
     exact List.mem_map.2 ⟨_, hx, rfl⟩
    obtain ⟨lim', hf⟩ := hsim.freeze (d := p.1) (q := p.2) (placeAt_den ρ hp) (by rw [hcP]; omega) hA hB
    refine ⟨lim', X, ?_⟩
    rw [List.map_cons, placeSet_den]
    exact hf
  ·exact ⟨hs, h⟩
 ·exact ⟨hs, h⟩
theorem killOne_sim {E : Env} (hnt : E.top ≤ 1024) {c : Ctx} {used : List Nat} {s : Tr} {n : Nat} {ρ : Nat → V} (d : Nat) {tm : Array Value} {w : World} (hs : stBd E s n) (h : ∃ lim X, Sim c (sden E s ρ) tm w lim X) :
  stBd E (killOne E used s d) n ∧ ∃ lim X, Sim c (sden E (killOne E used s d) ρ) tm w lim X := by
 unfold killOne
 split
 ·rename_i e l hp
  split
  ·rename_i hh
   have hlow : usLow E ((d, .dead) :: dropUps (gE E s) d E.top) := by
    unfold usLow
    rw [List.all_eq_true]
    intro u hu
    rcases List.mem_cons.1 hu with rfl | hu
    ·simpa using lt_top hh.1
    ·simpa using ((dropUps_mem E.top u).1 hu).2.1
   refine ⟨stBd_applyU hnt _ _ hlow hs fun u hu => ?_, ?_⟩
   ·rcases List.mem_cons.1 hu with rfl | hu
    ·trivial
    ·rw [((dropUps_mem E.top u).1 hu).1]; trivial
   ·obtain ⟨lim, X, hsim⟩ := h
    rw [sden_applyU hnt _ _ _ hlow]
    have hd : DropsAll (sden E s ρ) d ((dropUps (gE E s) d E.top).map fun u => (u.1, u.2.den ρ)) := dropUps_all (g := gE E s) ρ (gE_top s)
    obtain ⟨X', h1, _⟩ := hsim.freeAll (t := d) (x := true) (e := e) (xs := l.den ρ) (by show (gE E s d).den ρ = _; rw [hp]; rfl) (.inr hd)
    exact ⟨lim, X', h1⟩
  ·exact ⟨hs, h⟩
 ·exact ⟨hs, h⟩
theorem prep_sim {P : Program} {E : Env} (hnt : E.top ≤ 1024) {c : Ctx} (hcP : c.P = P) {id : Nat} {ops : Array Oper} {s : Tr} {n : Nat} {ρ : Nat → V} {tm : Array Value} {w : World} {lim : Nat → Nat} {X : Nat → Nat → Option Nat} (hs : stBd E s n) (h : Sim c (sden E s ρ) tm w lim X) :
  stBd E (prep P E id ops s) n ∧ ∃ lim X, Sim c (sden E (prep P E id ops s) ρ) tm w lim X := by
 have step1 : ∀ (l : List (Nat × Nat)) (s : Tr), stBd E s n → (∃ lim X, Sim c (sden E s ρ) tm w lim X) → stBd E (l.foldl (freezeOne P E) s) n ∧ ∃ lim X, Sim c (sden E (l.foldl (freezeOne P E) s) ρ) tm w lim X := by
  intro l
  induction l with
  | nil => exact fun s h1 h2 => ⟨h1, h2⟩
  | cons p l ih =>
   intro s h1 h2
   obtain ⟨g1, g2⟩ := freezeOne_sim hnt hcP p h1 h2
   exact ih _ g1 g2
 have step2 : ∀ (l : List Nat) (s : Tr), stBd E s n → (∃ lim X, Sim c (sden E s ρ) tm w lim X) → stBd E (l.foldl (killOne E (usesAll ops)) s) n ∧ ∃ lim X, Sim c (sden E (l.foldl (killOne E (usesAll ops)) s) ρ) tm w lim X := by
  intro l
  induction l with
  | nil => exact fun s h1 h2 => ⟨h1, h2⟩
  | cons p l ih =>
   intro s h1 h2
   obtain ⟨g1, g2⟩ := killOne_sim hnt p h1 h2
   exact ih _ g1 g2
 obtain ⟨g1, g2⟩ := step1 (E.fz id) s hs ⟨lim, X, h⟩
 exact step2 (dsts ops) _ g1 g2
section
variable {P : Program} {E : Env} {R : AV → List AV → Prop}
def Below1 (lv : Nat) (A A' : Nat → List V → Prop) : Prop := ∀ i, i < lv → A' i = A i
theorem ev_sound (hm : P.follows .mixedOrders = true) (hps : PlainSound P E.plain) (hnt : E.top ≤ 1024) {c : Ctx} (hcP : c.P = P) (hcn : c.nt = E.nt) (hpin : ∀ d v, c.pin d = some v → d ∈ E.pins) (hgpin : ∀ d b, c.gpin d = some b → E.nt ≤ d ∧ d < E.top) :
  ∀ (code : Code) (lv n : Nat) (s : Tr) (kn : Tr → Nat → STree) (kx : Nat → Tr → Nat → STree) (kr : Tr → Nat → STree) (A : Nat → List V → Prop) (ρ : Nat → V) (tm : Array Value) (w : World) (lim : Nat → Nat) (X : Nat → Nat → Option Nat)
   (Q : Exit → Act → World → Prop), stBd E s n → (ev P E lv code s n kn kx kr).wp P R A ρ → Sim c (sden E s ρ) tm w lim X →
   (∀ s' n' ρ' A', Below1 lv A A' → stBd E s' n' → (kn s' n').wp P R A' ρ' → ∀ tm' w' lim' X', Sim c (sden E s' ρ') tm' w' lim' X' → Q .normal ⟨tm', []⟩ w') →
   (∀ id s' n' ρ' A', Below1 lv A A' → stBd E s' n' → (kx id s' n').wp P R A' ρ' → ∀ tm' w' lim' X', Sim c (sden E s' ρ') tm' w' lim' X' → Q (.exit id) ⟨tm', []⟩ w') →
   (∀ s' n' ρ' A', Below1 lv A A' → stBd E s' n' → (kr s' n').wp P R A' ρ' → ∀ tm' w' lim' X', Sim c (sden E s' ρ') tm' w' lim' X' → Q .ret ⟨tm', []⟩ w') →
   code.wp P Q ⟨tm, []⟩ w := by
 intro code
 induction code with
 | skip => intro lv n s kn kx kr A ρ tm w lim X Q hs h hsim hn hx hr; exact wp_skip (hn s n ρ A (fun _ _ => rfl) hs h tm w lim X hsim)
 | label l => intro lv n s kn kx kr A ρ tm w lim X Q hs h hsim hn hx hr; exact wp_label (hn s n ρ A (fun _ _ => rfl) hs h tm w lim X hsim)
 | exit id => intro lv n s kn kx kr A ρ tm w lim X Q hs h hsim hn hx hr; exact wp_exit (hx id s n ρ A (fun _ _ => rfl) hs h tm w lim X hsim)
 | ret => intro lv n s kn kx kr A ρ tm w lim X Q hs h hsim hn hx hr; exact wp_ret (hr s n ρ A (fun _ _ => rfl) hs h tm w lim X hsim)
 | seq a b iha ihb =>
  intro lv n s kn kx kr A ρ tm w lim X Q hs h hsim hn hx hr
  refine wp_seq (iha lv n s _ kx kr A ρ tm w lim X _ hs h hsim ?_ hx hr)
  intro s' n' ρ' A' hA hs' h' tm' w' lim' X' hsim'
  exact ihb lv n' s' kn kx kr A' ρ' tm' w' lim' X' Q hs' h' hsim' (fun s2 n2 ρ2 A2 hA2 => hn s2 n2 ρ2 A2 fun i hi => (hA2 i hi).trans (hA i hi))
   (fun id s2 n2 ρ2 A2 hA2 => hx id s2 n2 ρ2 A2 fun i hi => (hA2 i hi).trans (hA i hi)) (fun s2 n2 ρ2 A2 hA2 => hr s2 n2 ρ2 A2 fun i hi => (hA2 i hi).trans (hA i hi))
 | cond x a b iha ihb =>
  intro lv n s kn kx kr A ρ tm w lim X Q hs h hsim hn hx hr
  simp only [ev] at h
  split at h
  ·rename_i t ht
   have hxt : x = .tmp t := by cases x <;> simp [slotOf] at ht; rw [ht]
   subst hxt
   have heval : ∀ v : BE, gE E s t = .c (.bool v) → Act.eval ⟨tm, []⟩ (.tmp t) = .bool (v.den ρ) := by
    intro v hv
    have hrel := hsim.rel t
    have : sden E s ρ t = .val (.bool (v.den ρ)) := by simp only [sden, hv, SV.den, SC.den]
    rw [this] at hrel
    exact rep_val hrel
   split at h
   ·rename_i v hv
    have he := heval _ hv
    simp only [BE.den] at he
    split at h
    ·rename_i hvt
     subst hvt
     exact wp_cond_true he (iha lv n s kn kx kr A ρ tm w lim X Q hs h hsim hn hx hr)
    ·rename_i hvt
     have : v = false := by simpa using hvt
     subst this
     exact wp_cond_false he (ihb lv n s kn kx kr A ρ tm w lim X Q hs h hsim hn hx hr)
   ·rename_i v _ hv
    refine wp_cond_split (heval v hv) (fun hv' => ?_) fun hv' => ?_
    ·obtain ⟨hlt, hsame⟩ := sden_refine hnt hv hv'
     exact iha lv n _ kn kx kr A ρ tm w lim X Q (stBd_set (x := .c (.bool (.lit true))) hnt hlt hs trivial) (h.1 hv') (by rw [hsame]; exact hsim) hn hx hr
    ·obtain ⟨hlt, hsame⟩ := sden_refine hnt hv hv'
     exact ihb lv n _ kn kx kr A ρ tm w lim X Q (stBd_set (x := .c (.bool (.lit false))) hnt hlt hs trivial) (h.2 hv') (by rw [hsame]; exact hsim) hn hx hr
   ·exact h.elim
  ·exact h.elim
 | block id body ih =>
  intro lv n s kn kx kr A ρ tm w lim X Q hs h hsim hn hx hr
  refine wp_block (ih lv n s kn _ kr A ρ tm w lim X _ hs h hsim hn ?_ hr)
  intro id' s' n' ρ' A' hA hs' h' tm' w' lim' X' hsim'
  unfold Exit.inBlock
  by_cases hid : id' = id
  ·rw [if_pos hid] at h'
   simp only [hid, if_true]
   exact hn s' n' ρ' A' hA hs' h' tm' w' lim' X' hsim'
  ·rw [if_neg hid] at h'
   simp only [hid, if_false]
   exact hx id' s' n' ρ' A' hA hs' h' tm' w' lim' X' hsim'
 | scope body ih =>
  intro lv n s kn kx kr A ρ tm w lim X Q hs h hsim hn hx hr
  exact wp_scope_straight (ih lv n s kn kx kr A ρ tm w lim X _ hs h hsim hn hx hr)
 | loop body ih =>
  intro lv n s kn kx kr A ρ tm w lim X Q hs h hsim hn hx hr
  simp only [ev] at h
  split at h
  case isFalse => exact h.elim
  rename_i hok
  split at h
  case h_2 => exact h.elim
  rename_i init hinit
  obtain ⟨I, m, h0, hround⟩ := h
  have hlen : ∀ {s' : Tr} {ves : List VE}, headVals P (gE E s') (E.keep (firstRegion body)) = some ves → (headUps (E.keep (firstRegion body)) 0).2 = ves.length := by
   intro s' ves hv
   have := (headVals_at (P := P) (g := gE E s') (ρ := ρ) _ 0 ves [] hv rfl).1
   omega
  have key : ∀ (k : Nat) (vs : List V) (tm : Array Value) (w : World) (lim : Nat → Nat) (X : Nat → Nat → Option Nat), m vs < k → vs.length = init.length → I vs →
    Sim c (sden E (applyU (headUps (E.keep (firstRegion body)) 0).1 (.leaf .dead)) (bind zeroE 0 vs)) tm w lim X → Code.rounds P body Q k ⟨tm, []⟩ w := by
   intro k
   induction k with
   | zero => intro vs tm w lim X hlt; omega
   | succ k ihk =>
    intro vs tm w lim X hlt hlv hI hsim
    rw [rounds_succ]
    obtain ⟨k1, k2, k3, k4, k5, k6⟩ := headOk_spec hok
    have hbd : stBd E (applyU (headUps (E.keep (firstRegion body)) 0).1 (.leaf .dead)) (headUps (E.keep (firstRegion body)) 0).2 := by
     refine stBd_applyU hnt _ _ ?_ (fun d => ?_) (headUps_bd _ 0).2
     ·unfold usLow
      rw [List.all_eq_true]
      intro u hu
      have h2 := (headVals_at (P := P) (g := gE E s) (ρ := ρ) _ 0 init [] hinit rfl).2.1
      have hm : u.1 ∈ (E.keep (firstRegion body)).map (·.1) := by rw [← h2]; exact List.mem_map.2 ⟨u, hu, rfl⟩
      obtain ⟨p, hp, he⟩ := List.mem_map.1 hm
      have := (k2 p hp).1
      rw [he] at this
      simpa using this
     ·unfold gE
      split <;> trivial
    refine ih (lv + 1) _ _ _ kx kr _ (bind zeroE 0 vs) tm w lim X _ hbd (hround vs hlv hI) hsim ?_ ?_ ?_
    ·intro s' n' ρ' A' hA hs' h' tm' w' lim' X' hsim'
     split at h'
     ·rename_i vals hvals
      have hAl : A' lv = fun vs' => I vs' ∧ m vs' < m vs := by
       rw [hA lv (Nat.lt_succ_self _)]
       funext vs'
       simp only [updA, if_true]
      have h'' : A' lv (vals.map (VE.den ρ')) := h'
      rw [hAl] at h''
      obtain ⟨hI', hm'⟩ := h''
      obtain ⟨X2, hs2⟩ := head_sim hnt hcP hcn hpin hgpin hok zeroE hvals hsim'
      exact ihk _ tm' w' lim' X2 (by omega) (by rw [List.length_map, ← hlen hvals, hlen hinit]) hI' hs2
     ·exact h'.elim
    ·intro id s' n' ρ' A' hA hs' h' tm' w' lim' X' hsim'
     exact hx id s' n' ρ' A' (fun i hi => by rw [hA i (by omega)]; funext vs'; simp only [updA, Nat.ne_of_lt hi, if_false]) hs' h' tm' w' lim' X' hsim'
    ·intro s' n' ρ' A' hA hs' h' tm' w' lim' X' hsim'
     exact hr s' n' ρ' A' (fun i hi => by rw [hA i (by omega)]; funext vs'; simp only [updA, Nat.ne_of_lt hi, if_false]) hs' h' tm' w' lim' X' hsim'
  obtain ⟨X0, hs0⟩ := head_sim hnt hcP hcn hpin hgpin hok zeroE hinit hsim
  exact wp_loop_rounds _ (key (m (init.map (VE.den ρ)) + 1) _ tm w lim X0 (Nat.lt_succ_self _) (by rw [List.length_map]) h0 hs0)
 | region id ops draw =>
  intro lv n s0 kn kx kr A ρ tm w lim0 X0 Q hs0 h hsim0 hn hx hr
  simp only [ev] at h
  obtain ⟨hs, lim, X, hsim⟩ := prep_sim (P := P) hnt hcP (id := id) (ops := ops) hs0 hsim0
  generalize prep P E id ops s0 = s at h hs hsim
  split at h
  ·rename_i x a d T neg htest
   split at h
   case h_2 => exact h.elim
   rename_i e l hT hl
   split at h
   case isFalse => exact h.elim
   rename_i hh
   obtain ⟨ha, hd, hma, hmd, had, hxa⟩ := hh
   obtain ⟨o, p, U, hops, hgo, hgp, h1, h2, h3, h4⟩ := nilTest_spec htest
   obtain ⟨va, k, cap, hv, hnil⟩ := slice_form hl (hsim.rel x)
   have hsz : ops.size = 2 := by rw [← Array.length_toList, hops]; rfl
   have ho0 : ops[0]? = some o := by rw [← Array.getElem?_toList, hops]; rfl
   have ho1 : ops[1]? = some p := by rw [← Array.getElem?_toList, hops]; rfl
   refine wp_region ?_
   rw [hsz, show List.range 2 = [0, 1] from rfl, wpOps_cons]
   unfold wpOp
   simp only [ho0, Region.wanted, hgo]
   simp only [if_true]
   refine .inl (wp_of_run (v := .slice va k cap) (w' := w) ?_ ?_)
   ·have hev : Act.eval ⟨tm, []⟩ (.tmp x) = tm.getD x undef := rfl
    simp only [execOp, h1, hev, hv, Sem.run_pure]
   ·rw [wpOps_cons]
    unfold wpOp
    simp only [ho1, Region.wanted, hgp]
    simp only [if_true]
    have hea : Act.eval (Act.put ⟨tm, []⟩ o.dst (.slice va k cap)) (.tmp a) = .slice va k cap := by
     rw [h2]
     exact getD_set tm a _ (by rw [hsim.size, hcn]; exact ha)
    refine .inl (wp_of_run (v := .bool (if neg = true then !va.isNone else va.isNone)) (w' := w) ?_ ?_)
    ·have hec : Act.eval (Act.put ⟨tm, []⟩ o.dst (.slice va k cap)) (.const (.slice none 0 0)) = .slice none 0 0 := rfl
     have heq := run_equal_slice_nil (P := P) w T _ va k cap hT
     cases neg
     ·simp [execOp, h3, hea, hec, eqGuard, binOp, heq]
     ·simp [execOp, h3, hea, hec, eqGuard, binOp, heq]
    ·have hb := h va.isNone hnil
     have hna : FreeS (sden E s ρ a) := mayPutS_old (mayPut_den (a := gE E s a) (b := .dead) ρ hma)
     have hnd : FreeS (sden E s ρ d) := mayPutS_old (mayPut_den (a := gE E s d) (b := .dead) ρ hmd)
     have s1 := hsim.put (k := 0) (x := .dead) (v := .slice va k cap) (by rw [hcn]; exact ha) hna rfl trivial
     have s2 := s1.put (d := d) (k := 0) (x := .val (.bool (if neg = true then !va.isNone else va.isNone))) (v := .bool (if neg = true then !va.isNone else va.isNone)) (by rw [hcn]; exact hd) (by rw [upd_other _ _ (Ne.symm had)]; exact hnd) rfl (Rep.val rfl)
     have hbv : (BE.den (bind ρ n [.b va.isNone]) (if neg = true then .not (.var n) else .var n)) = (if neg = true then !va.isNone else va.isNone) := by
      have hvar : bind ρ n [.b va.isNone] n = .b va.isNone := by simp [bind]
      cases neg
      ·simp only [Bool.false_eq_true, if_false, BE.den, hvar, V.bool]
      ·simp only [if_true, BE.den, hvar, V.bool]
     have hσ : sden E ((s.set depth a .dead).set depth d (.c (.bool (if neg = true then .not (.var n) else .var n)))) (bind ρ n [.b va.isNone]) = upd (upd (sden E s ρ) a .dead) d (.val (.bool (if neg = true then !va.isNone else va.isNone))) := by
      rw [sden_set hnt (lt_top hd), sden_set hnt (lt_top ha), sden_congr hs (bind_lt ρ n _)]
      simp only [SV.den, SC.den, hbv]
     have hs2 : stBd E ((s.set depth a .dead).set depth d (.c (.bool (if neg = true then .not (.var n) else .var n)))) (n + 1) := by
      refine stBd_set hnt (lt_top hd) (stBd_set hnt (lt_top ha) (stBd_mono hs (Nat.le_succ n)) trivial) ?_
      cases neg
      ·exact Nat.lt_succ_self n
      ·exact Nat.lt_succ_self n
     rw [h2, h4]
     show Q .normal ⟨(tm.setIfInBounds a (.slice va k cap)).setIfInBounds d (.bool (if neg = true then !va.isNone else va.isNone)), []⟩ w
     exact hn _ _ _ A (fun _ _ => rfl) hs2 hb _ w lim _ (by rw [hσ]; exact s2)
  ·split at h
   ·rename_i x i a b cc T htest _
    split at h
    case h_2 => exact h.elim
    rename_i e0 e l ie hT hgx hgi
    split at h
    case h_2 => exact h.elim
    rename_i inf hinf
    split at h
    case h_2 => exact h.elim
    rename_i z hz
    split at h
    case h_2 => exact h.elim
    rename_i zc sh hzc hsh
    split at h
    case h_2 => exact h.elim
    rename_i zc' hzc'
    split at h
    case isFalse => exact h.elim
    rename_i hh
    obtain ⟨rfl, hzs, h0, hok⟩ := hh
    simp only [clearOk, Bool.and_eq_true, decide_eq_true_eq] at hok
    obtain ⟨⟨hxn, han, hbn, hcn', hxa, hxb, hxc, hia, hab, hac, hbc⟩, hma, hmb, hmc⟩ := hok
    obtain ⟨r1, r2, h⟩ := h
    have r1' : (0 : Int) ≤ ie.den ρ := r1
    have r2' : ie.den ρ ≤ ((l.den ρ).length : Int) := r2
    obtain ⟨o, p, q, r, hops, hgo, hgp, hgq, hgr, h1, h2, h3, h4, h5, h6, ⟨cl, h7, h9, h10, h11⟩, h8⟩ := clearTest_spec htest
    have hσx : sden E s ρ x = .own true e (l.den ρ) := by show (gE E s x).den ρ = _; rw [hgx]; rfl
    have hσi : sden E s ρ i = .val (.int .i64 (ie.den ρ)) := by show (gE E s i).den ρ = _; rw [hgi]; rfl
    have hzd := ofCs_den ρ z.cells.toList
    rw [hzc] at hzd
    have hzr0 : ∀ (w : World) (lim : Nat → Nat), RelL w lim (zc.map (SC.den ρ)) z.cells.toList := fun w lim => ofCsS_relL (h := hzd.symm)
    have hzr : ∀ (w : World) (lim : Nat → Nat), RelL w lim (zc'.map (SC.den ρ)) z.cells.toList := fun w lim => (normCs_ok ρ _ _ _ hzc').2 w lim _ (hzr0 w lim)
    have h1z : ∀ v ∈ z.cells.toList, v.oneCell' = true := by
     intro v hv
     obtain ⟨j, hj⟩ := List.mem_iff_getElem?.1 hv
     have hjl := (List.getElem?_eq_some_iff.1 hj).1
     have hr0 := hzr0 w lim
     have hjz : j < (zc.map (SC.den ρ)).length := by rw [hr0.1]; exact hjl
     exact (hr0.2.2 j _ v (List.getElem?_eq_getElem hjz) hj).oneCell (hr0.2.1 _ (List.getElem_mem hjz))
    obtain ⟨v2, w', X', hsl, hcl, hs', hmx⟩ := hsim.clear (x := x) (n := (ie.den ρ).toNat) (T := T) (zc := zc'.map (SC.den ρ)) hσx (by rw [hcP]; exact hT) (by rw [hcP]; exact hinf) hz hzs h0 hzr h1z (by omega)
    rw [hcP] at hsl hcl
    have hvi : tm.getD i undef = .int .i64 (ie.den ρ) := by
     have := hsim.rel i
     rw [hσi] at this
     exact rep_val (show Rep w lim _ _ from this)
    have hin : ((ie.den ρ).toNat : Int) = ie.den ρ := by omega
    rw [hin] at hsl
    have hsz : ops.size = 4 := by rw [← Array.length_toList, hops]; rfl
    have ho0 : ops[0]? = some o := by rw [← Array.getElem?_toList, hops]; rfl
    have ho1 : ops[1]? = some p := by rw [← Array.getElem?_toList, hops]; rfl
    have ho2 : ops[2]? = some q := by rw [← Array.getElem?_toList, hops]; rfl
    have ho3 : ops[3]? = some r := by rw [← Array.getElem?_toList, hops]; rfl
    have hts : tm.size = E.nt := by rw [hsim.size, hcn]
    refine wp_region ?_
    rw [hsz, show List.range 4 = [0, 1, 2, 3] from rfl, wpOps_cons]
    unfold wpOp
    simp only [ho0, Region.wanted, hgo]
    simp only [if_true]
    refine .inl (wp_of_run (v := tm.getD x undef) (w' := w) ?_ ?_)
    ·have hev : Act.eval ⟨tm, []⟩ (.tmp x) = tm.getD x undef := rfl
     simp only [execOp, h1, hev, Sem.run_pure]
    rw [wpOps_cons]
    unfold wpOp
    simp only [ho1, Region.wanted, hgp]
    simp only [if_true]
    have e1 : Act.eval (Act.put ⟨tm, []⟩ o.dst (tm.getD x undef)) (.tmp i) = .int .i64 (ie.den ρ) := by
     rw [h2]
     exact (getD_set_other tm a i _ hia).trans hvi
    refine .inl (wp_of_run (v := .int .i64 (ie.den ρ)) (w' := w) ?_ ?_)
    ·simp only [execOp, h3, e1, Sem.run_pure]
    rw [wpOps_cons]
    unfold wpOp
    simp only [ho2, Region.wanted, hgq]
    simp only [if_true]
    have e2 : Act.eval (Act.put (Act.put ⟨tm, []⟩ o.dst (tm.getD x undef)) p.dst (.int .i64 (ie.den ρ))) (.tmp a) = tm.getD x undef := by
     rw [h2, h4]
     exact (getD_set_other _ b a _ hab).trans (getD_set tm a _ (by rw [hts]; exact han))
    have e3 : Act.eval (Act.put (Act.put ⟨tm, []⟩ o.dst (tm.getD x undef)) p.dst (.int .i64 (ie.den ρ))) (.tmp b) = .int .i64 (ie.den ρ) := by
     rw [h2, h4]
     exact getD_set _ b _ (by show b < (tm.setIfInBounds a _).size; rw [Array.size_setIfInBounds, hts]; exact hbn)
    refine .inl (wp_of_run (v := v2) (w' := w) ?_ ?_)
    ·simp only [execOp, h5, Option.map_some, Option.map_none, Sem.run_bind, e2, e3, hsl, Result.andThen_ok, Sem.run_pure]
    rw [wpOps_cons]
    unfold wpOp
    simp only [ho3, Region.wanted, hgr]
    simp only [if_true]
    have e4 : Act.eval (Act.put (Act.put (Act.put ⟨tm, []⟩ o.dst (tm.getD x undef)) p.dst (.int .i64 (ie.den ρ))) q.dst v2) (.tmp cc) = v2 := by
     rw [h2, h4, h6]
     exact getD_set _ cc _ (by show cc < ((tm.setIfInBounds a _).setIfInBounds b _).size; rw [Array.size_setIfInBounds, Array.size_setIfInBounds, hts]; exact hcn')
    refine .inl (wp_of_run (v := .tuple #[]) (w' := w') ?_ ?_)
    ·simp only [execOp, h7, h9, h10, h11, resolve, invoke, builtin, Sem.run_bind, Sem.run_pure, Result.andThen_ok, List.map_toArray, List.map_cons, List.map_nil, e4, hcl]
    have hna : FreeS (sden E s ρ a) := mayPutS_old (mayPut_den (a := gE E s a) (b := .dead) ρ hma)
    have hnb : FreeS (sden E s ρ b) := mayPutS_old (mayPut_den (a := gE E s b) (b := .dead) ρ hmb)
    have hnc : FreeS (sden E s ρ cc) := mayPutS_old (mayPut_den (a := gE E s cc) (b := .dead) ρ hmc)
    have s1 := hs'.put (d := a) (k := 0) (x := .dead) (v := tm.getD x undef) (by rw [hcn]; exact han) (by rw [upd_other _ _ (Ne.symm hxa)]; exact hna) rfl trivial
    have s2 := s1.put (d := b) (k := 0) (x := .dead) (v := .int .i64 (ie.den ρ)) (by rw [hcn]; exact hbn) (by rw [upd_other _ _ (Ne.symm hab), upd_other _ _ (Ne.symm hxb)]; exact hnb) rfl trivial
    have s3 := s2.put (d := cc) (k := 0) (x := .dead) (v := v2) (by rw [hcn]; exact hcn') (by rw [upd_other _ _ (Ne.symm hbc), upd_other _ _ (Ne.symm hac), upd_other _ _ (Ne.symm hxc)]; exact hnc) rfl trivial
    have hwr : iop .sub .i64 ((l.den ρ).length : Int) (ie.den ρ) = ((l.den ρ).length : Int) - ie.den ρ := by
     show IntKind.i64.wrap _ = _
     rw [IntKind.wrap_i64]
     unfold maxLen at hmx
     omega
    have hlist : (LE.app (.take l ie) (.rep (.bin .sub .i64 (.len l) ie) (ceOf zc'))).den ρ = (l.den ρ).take (ie.den ρ).toNat ++ List.replicate ((l.den ρ).length - (ie.den ρ).toNat) (zc'.map (SC.den ρ)) := by
     show (l.den ρ).take (ie.den ρ).toNat ++ List.replicate (iop .sub .i64 ((l.den ρ).length : Int) (ie.den ρ)).toNat ((ceOf zc').den ρ) = _
     rw [hwr, ceOf_den]
     congr 2
     omega
    have bx : (gE E s x).bd n := hs x
    have bi : (gE E s i).bd n := hs i
    rw [hgx] at bx
    rw [hgi] at bi
    have hσ : sden E ((((s.set depth x (.own true e (.app (.take l ie) (.rep (.bin .sub .i64 (.len l) ie) (ceOf zc'))))).set depth a .dead).set depth b .dead).set depth cc .dead) ρ = upd (upd (upd (upd (sden E s ρ) x (.own true e ((l.den ρ).take (ie.den ρ).toNat ++ List.replicate ((l.den ρ).length - (ie.den ρ).toNat) (zc'.map (SC.den ρ))))) a .dead) b .dead) cc .dead := by
     rw [sden_set hnt (lt_top hcn'), sden_set hnt (lt_top hbn), sden_set hnt (lt_top han), sden_set hnt (lt_top hxn)]
     simp only [SV.den, hlist]
    have hs2 : stBd E ((((s.set depth x (.own true e (.app (.take l ie) (.rep (.bin .sub .i64 (.len l) ie) (ceOf zc'))))).set depth a .dead).set depth b .dead).set depth cc .dead) n :=
     stBd_set hnt (lt_top hcn') (stBd_set hnt (lt_top hbn) (stBd_set hnt (lt_top han) (stBd_set hnt (lt_top hxn) hs ⟨⟨bx, bi⟩, ⟨bx, bi⟩, ceOf_bd _ (normCs_bd _ _ _ hzc' (ofCs_bd hzc))⟩) trivial) trivial) trivial
    rw [h2, h4, h6, h8]
    exact hn _ _ ρ A (fun _ _ => rfl) hs2 h _ w' lim _ (by rw [hσ]; exact s3)
   ·exact region_sound hm hps hnt (fun d hd => isPB_den ρ hd) hs h hcP hcn hsim fun s' n' ρ' hs' h' => hn s' n' ρ' A (fun _ _ => rfl) hs' h'
 | _ => intro lv n s kn kx kr A ρ tm w lim X Q hs h hsim hn hx hr; exact h.elim
end
end Go.AM
end

section
namespace Go.AM
def resRead (tm : Array Value) : ResultVar → Sem Value
 | .tmp t => pure (tm.getD t undef)
 | .cell a t => do loadVar t (← asAddr (tm.getD a undef))
def resIx : ResultVar → Nat
 | .tmp _ => 0
 | .cell _ _ => 1
theorem results_eq (fn : Func) (tm : Array Value) : results fn tm = (do
  let vs ← fn.results.mapM (resRead tm)
  pure (if h : vs.size = 1 then vs[0] else .tuple vs)) := by
 unfold results
 congr 1
theorem run_mapM {P : Program} {w : World} {f : ResultVar → Sem Value} : ∀ (rs : List ResultVar) (vs : List Value), rs.length = vs.length →
  (∀ (i : Nat) (r : ResultVar) (v : Value), rs[i]? = some r → vs[i]? = some v → (f r).run P w = .ok v w) → (rs.mapM f).run P w = .ok vs w
 | [], [], _, _ => by simp
 | [], _ :: _, h, _ => by simp at h
 | _ :: _, [], h, _ => by simp at h
 | r :: rs, v :: vs, h, hf => by
  have h1 := hf 0 r v rfl rfl
  have h2 := run_mapM rs vs (by simpa using h) fun i r' v' hr hv => hf (i + 1) r' v' (by simpa using hr) (by simpa using hv)
  simp [List.mapM_cons, h1, h2]
theorem run_results {P : Program} {w : World} {fn : Func} {tm : Array Value} {vs : List Value} (hl : fn.results.toList.length = vs.length)
  (hf : ∀ (i : Nat) (r : ResultVar) (v : Value), fn.results.toList[i]? = some r → vs[i]? = some v → (resRead tm r).run P w = .ok v w) :
  (results fn tm).run P w = .ok (match vs with | [v] => v | vs => .tuple vs.toArray) w := by
 have h := run_mapM _ _ hl hf
 rw [results_eq, Array.mapM_eq_mapM_toList]
 simp only [Sem.run_bind, Sem.run_map, h, Result.andThen_ok]
 rcases vs with _ | ⟨v, _ | ⟨u, l⟩⟩ <;> simp
section
variable {P : Program} {E : Env}
theorem resOne_ok {c : Ctx} (hc : c.P = P) {s : Tr} {ρ : Nat → V} {tm : Array Value} {w : World} {lim : Nat → Nat} {X : Nat → Nat → Option Nat} (hs : Sim c (sden E s ρ) tm w lim X) {r : ResultVar} {x : TC}
  (h : resOne P (gE E s) r = some x) : ∃ v, (resRead tm r).run P w = .ok v w ∧ CellR P w lim (X (resSlot r) (resIx r)) (x.den ρ) v := by
 cases r with
 | tmp t =>
  have hr := hs.rel t
  simp only [resOne] at h
  split at h
  ·rename_i y hy
   simp only [Option.some.injEq] at h
   subst h
   have : sden E s ρ t = y.den ρ := by simp only [sden, hy, SV.den]
   rw [this] at hr
   exact ⟨_, rfl, by cases y <;> exact hr⟩
  ·rename_i cs hy
   simp only [Option.some.injEq] at h
   subst h
   have : sden E s ρ t = .agg (cs.map (SC.den ρ)) := by simp only [sden, hy, SV.den]
   rw [this] at hr
   exact ⟨_, rfl, hr⟩
  ·rename_i b e xs hy
   simp only [Option.some.injEq] at h
   subst h
   have : sden E s ρ t = .own b e (xs.den ρ) := by simp only [sden, hy, SV.den]
   rw [this, hc] at hr
   exact ⟨_, rfl, hr⟩
  ·cases h
 | cell t T =>
  have hr := hs.rel t
  simp only [resOne] at h
  split at h
  ·rename_i cs hT hy
   split at h
   ·rename_i hl
    simp only [Option.some.injEq] at h
    subst h
    have : sden E s ρ t = .box (cs.map (BC.den ρ)) := by simp only [sden, hy, SV.den]
    rw [this, hc] at hr
    obtain ⟨b, us, g1, g2, g3, g4, g5, g6⟩ := PlainR.part (show PlainR P w lim (X t) _ _ from hr) 0 (P.cellsOf T) (by simp [hl.1]) (by rw [List.drop_zero, List.take_of_length_le (by simp [hl.1])]; exact plainB_ok hl.2 ρ)
    refine ⟨.agg us.toArray, ?_, ?_⟩
    ·obtain ⟨i, hi⟩ := isAgg_info hT
     have hl2 := run_loadCells_list (P := P) w ⟨b, 0, none⟩ us (fun j v hj => by rw [add_none]; exact g4 j v hj)
     rw [g3] at hl2
     simp [resRead, g2, asAddr, loadVar, isAgg_true hT, run_sizeOf hi, hl2]
    ·have he : (TC.agg (cs.map (stripB P))).den ρ = .agg ((((cs.map (BC.den ρ)).drop 0).take (P.cellsOf T)).map (stripS P)) := by
      rw [List.drop_zero, List.take_of_length_le (by simp [hl.1])]
      simp only [TC.den, List.map_map]
      congr 1
      exact List.map_congr_left fun b _ => stripB_den P ρ b
     rw [he]
     exact .agg (by simp [g3, hl.1]) g5 g6
   ·cases h
  ·rename_i bx e xs hT hy
   simp only [Option.some.injEq] at h
   subst h
   have : sden E s ρ t = .box [.own bx e (xs.den ρ)] := by simp only [sden, hy, SV.den]; rfl
   rw [this, hc] at hr
   obtain ⟨b, arr, ty, h1, h2, h3, h4, h5, h6, h7⟩ := (show PlainR P w lim (X t) _ _ from hr)
   obtain ⟨u, hu⟩ : ∃ u, arr[0]? = some u := ⟨_, Array.getElem?_eq_getElem (by rw [h4]; simp)⟩
   refine ⟨u, ?_, h7 0 _ u rfl hu⟩
   have hcell : w.cell? ⟨b, 0, none⟩ = some u := by rw [cell_of_heap h3]; exact hu
   simp [resRead, h2, asAddr, loadVar, isAgg_false hT, hcell]
  ·rename_i y hT hy
   simp only [Option.some.injEq] at h
   subst h
   have : sden E s ρ t = .box [y.den ρ] := by simp only [sden, hy, SV.den]; rfl
   rw [this, hc] at hr
   obtain ⟨b, arr, ty, h1, h2, h3, h4, h5, h6, h7⟩ := (show PlainR P w lim (X t) _ _ from hr)
   obtain ⟨u, hu⟩ : ∃ u, arr[0]? = some u := ⟨_, Array.getElem?_eq_getElem (by rw [h4]; simp)⟩
   have h70 := h7 0 _ u rfl hu
   refine ⟨u, ?_, by cases y <;> exact h70⟩
   have hcell : w.cell? ⟨b, 0, none⟩ = some u := by rw [cell_of_heap h3]; exact hu
   simp [resRead, h2, asAddr, loadVar, isAgg_false hT, hcell]
  ·cases h
theorem resAll_ok {c : Ctx} (hc : c.P = P) {s : Tr} {ρ : Nat → V} {tm : Array Value} {w : World} {lim : Nat → Nat} {X : Nat → Nat → Option Nat} (hs : Sim c (sden E s ρ) tm w lim X) : ∀ (rs : List ResultVar) (xs : List TC),
  resAll P (gE E s) rs = some xs → ∃ vs : List Value, rs.length = vs.length ∧ xs.length = vs.length ∧ ∀ (i : Nat) (r : ResultVar) (v : Value), rs[i]? = some r → vs[i]? = some v →
   (resRead tm r).run P w = .ok v w ∧ ∀ x, xs[i]? = some x → CellR P w lim (X (resSlot r) (resIx r)) (x.den ρ) v
 | [], xs, h => by
  simp only [resAll, Option.some.injEq] at h
  subst h
  exact ⟨[], rfl, rfl, by simp⟩
 | r :: rs, xs, h => by
  simp only [resAll] at h
  split at h
  ·rename_i x xs' hx hxs
   simp only [Option.some.injEq] at h
   subst h
   obtain ⟨v, h1, h2⟩ := resOne_ok hc hs hx
   obtain ⟨vs, g1, g2, g3⟩ := resAll_ok hc hs rs xs' hxs
   refine ⟨v :: vs, by simp [g1], by simp [g2], fun i r' v' hr hv => ?_⟩
   cases i with
   | zero =>
    simp only [List.getElem?_cons_zero, Option.some.injEq] at hr hv
    subst hr
    subst hv
    refine ⟨h1, fun y hy => ?_⟩
    simp only [List.getElem?_cons_zero, Option.some.injEq] at hy
    subst hy
    exact h2
   | succ i =>
    obtain ⟨k1, k2⟩ := g3 i r' v' (by simpa using hr) (by simpa using hv)
    exact ⟨k1, fun y hy => k2 y (by simpa using hy)⟩
  ·cases h
theorem cellR_slotR {w : World} {lim : Nat → Nat} {X : Nat → Nat → Option Nat} {σ : Nat → AV} {d : Nat} {x : TC} {ρ : Nat → V} {v : Value} (h : CellR P w lim (X d 0) (x.den ρ) v) : SlotR P w lim X σ d (x.den ρ) v := by
 cases x with
 | c y => cases y <;> exact h
 | agg cs => exact h
 | own x e l => exact h
 | gone => trivial
theorem argUps_den (ρ : Nat → V) : ∀ (as : List SV) (i : Nat) (σ : Nat → AV) (d : Nat), updL σ ((argUps as i).map fun u => (u.1, u.2.den ρ)) d = if i ≤ d ∧ d < i + as.length then argS (as.map (SV.den ρ)) (d - i) else σ d
 | [], i, σ, d => by
  rw [if_neg (by simp)]
  rfl
 | a :: as, i, σ, d => by
  simp only [argUps, List.map_cons, updL]
  rw [argUps_den ρ as (i + 1)]
  by_cases h : i + 1 ≤ d ∧ d < i + 1 + as.length
  ·rw [if_pos h, if_pos (by simp only [List.length_cons]; omega)]
   obtain ⟨k, hk⟩ : ∃ k, d - i = k + 1 := ⟨d - i - 1, by omega⟩
   rw [hk, show d - (i + 1) = k by omega]
   simp [argS]
  ·rw [if_neg h]
   by_cases hd : d = i
   ·subst hd
    rw [upd_same, if_pos (by simp)]
    simp [argS]
   ·rw [upd_other _ _ hd, if_neg (by simp only [List.length_cons]; omega)]
theorem argUps_bd {n : Nat} : ∀ (as : List SV) (i : Nat), (∀ a ∈ as, a.bd n) → ∀ u ∈ argUps as i, u.2.bd n
 | [], i, _, u, hu => by simp [argUps] at hu
 | a :: as, i, h, u, hu => by
  rcases List.mem_cons.1 hu with rfl | hu
  ·exact h a (by simp)
  ·exact argUps_bd as (i + 1) (fun b hb => h b (by simp [hb])) u hu
theorem argUps_low : ∀ (as : List SV) (i m : Nat), i + as.length ≤ m → ∀ u ∈ argUps as i, u.1 < m
 | [], i, m, _, u, hu => by simp [argUps] at hu
 | a :: as, i, m, h, u, hu => by
  simp only [List.length_cons] at h
  rcases List.mem_cons.1 hu with rfl | hu
  ·show i < m; omega
  ·exact argUps_low as (i + 1) m (by omega) u hu
def SV.isBx : SV → Bool
 | .box _ => true
 | .gbox _ => true
 | _ => false
theorem argsFine_tail {a : SV} {as : List SV} {i : Nat} (h : argsFine E (a :: as) i = true) : argsFine E as (i + 1) = true := by
 cases a <;> simp only [argsFine, Bool.and_eq_true, Bool.false_eq_true] at h <;> exact h.2
theorem argsFine_at : ∀ (as : List SV) (i : Nat), argsFine E as i = true → ∀ (j : Nat) (a : SV), as[j]? = some a → (∀ cs, a = .box cs → i + j ∈ E.pins) ∧ (a.isG = true ↔ E.nt ≤ i + j)
 | [], i, _, j, a, h => by simp at h
 | a :: as, i, hf, j, b, h => by
  cases j with
  | zero =>
   simp only [List.getElem?_cons_zero, Option.some.injEq] at h
   subst h
   refine ⟨fun cs e => ?_, ?_⟩
   ·subst e
    simp only [argsFine, Bool.and_eq_true, List.contains_iff_mem] at hf
    exact hf.1.2
   ·cases a <;> simp only [argsFine, Bool.and_eq_true, decide_eq_true_eq, Bool.false_eq_true] at hf <;> simp only [SV.isG, Bool.false_eq_true, false_iff, true_iff] <;> omega
  | succ j =>
   have := argsFine_at as (i + 1) (argsFine_tail hf) j b (by simpa using h)
   rw [show i + (j + 1) = i + 1 + j by omega]
   exact this
theorem outOf_at (g : Nat → SV) : ∀ (as : List SV) (i j : Nat), (outOf g as i)[j]? = (as[j]?).map fun a => if a.isBx = true then g (i + j) else .dead
 | [], i, j => by simp [outOf]
 | a :: as, i, 0 => by cases a <;> rfl
 | a :: as, i, j + 1 => by
  have := outOf_at g as (i + 1) j
  rw [show i + 1 + j = i + (j + 1) by omega] at this
  cases a <;> simpa [outOf] using this
theorem outOf_len (g : Nat → SV) : ∀ (as : List SV) (i : Nat), (outOf g as i).length = as.length
 | [], i => rfl
 | a :: as, i => by cases a <;> simp [outOf, outOf_len g as]
def srcX (args : List SV) (rs : List ResultVar) (i k : Nat) : Option (Nat × Nat) :=
 if i < args.length then (if (args[i]?).map SV.isBx = some true then some (i, k) else none)
 else if i = args.length then
  match rs with
  | [r] => if k = 0 then some (resSlot r, resIx r) else none
  | rs => match k with | 0 => none | k + 1 => (rs[k]?).map fun r => (resSlot r, resIx r)
 else none
theorem nodup_at : ∀ (rs : List ResultVar), (rs.map resSlot).Nodup → ∀ (i j : Nat) (a b : ResultVar), rs[i]? = some a → rs[j]? = some b → resSlot a = resSlot b → i = j
 | [], _, i, j, a, b, h, _, _ => by simp at h
 | r :: rs, hn, i, j, a, b, ha, hb, he => by
  rw [List.map_cons, List.nodup_cons] at hn
  cases i with
  | zero =>
   cases j with
   | zero => rfl
   | succ j =>
    simp only [List.getElem?_cons_zero, Option.some.injEq] at ha
    subst ha
    exact (hn.1 (List.mem_map.2 ⟨b, List.mem_of_getElem? (by simpa using hb), he.symm⟩)).elim
  | succ i =>
   cases j with
   | zero =>
    simp only [List.getElem?_cons_zero, Option.some.injEq] at hb
    subst hb
    exact (hn.1 (List.mem_map.2 ⟨a, List.mem_of_getElem? (by simpa using ha), he⟩)).elim
   | succ j => rw [nodup_at rs hn.2 i j a b (by simpa using ha) (by simpa using hb) he]
theorem srcX_res {args : List SV} {rs : List ResultVar} {k : Nat} {p : Nat × Nat} (h : srcX args rs args.length k = some p) :
  ∃ j r, rs[j]? = some r ∧ p = (resSlot r, resIx r) ∧ ((rs.length = 1 ∧ j = 0 ∧ k = 0) ∨ (rs.length ≠ 1 ∧ k = j + 1)) := by
 unfold srcX at h
 rw [if_neg (Nat.lt_irrefl _), if_pos rfl] at h
 split at h
 ·rename_i r
  split at h
  ·rename_i hk
   simp only [Option.some.injEq] at h
   exact ⟨0, r, rfl, h.symm, .inl ⟨rfl, rfl, hk⟩⟩
  ·cases h
 ·rename_i hne
  split at h
  ·cases h
  ·rename_i k
   cases hr : rs[k]? with
   | none => simp [hr] at h
   | some r =>
    simp only [hr, Option.map_some, Option.some.injEq] at h
    refine ⟨k, r, hr, h.symm, .inr ⟨fun h1 => ?_, rfl⟩⟩
    obtain ⟨r', hr'⟩ := List.length_eq_one_iff.1 h1
    exact hne r' hr'
theorem srcX_inj {args : List SV} {rs : List ResultVar} (hf : resFine args rs = true) {i k i' k' : Nat} {p : Nat × Nat} (h : srcX args rs i k = some p) (h' : srcX args rs i' k' = some p) : i = i' ∧ k = k' := by
 simp only [resFine, Bool.and_eq_true] at hf
 obtain ⟨hn, hb⟩ := hf
 have hnd := nodupB_ok _ hn
 have hform : ∀ i k p, srcX args rs i k = some p → (i < args.length ∧ p = (i, k) ∧ ∃ a, args[i]? = some a ∧ a.isBx = true) ∨ i = args.length := by
  intro i k p h
  unfold srcX at h
  split at h
  ·rename_i hi
   split at h
   ·rename_i hbx
    simp only [Option.some.injEq] at h
    obtain ⟨a, ha, hax⟩ := Option.map_eq_some_iff.1 hbx
    exact .inl ⟨hi, h.symm, a, ha, hax⟩
   ·cases h
  ·split at h
   ·rename_i hi; exact .inr hi
   ·cases h
 have hno : ∀ (j : Nat) (r : ResultVar), rs[j]? = some r → ∀ a, args[resSlot r]? = some a → a.isBx = true → False := by
  intro j r hr a ha hax
  rw [List.all_eq_true] at hb
  have := hb r (List.mem_of_getElem? hr)
  rw [ha] at this
  cases a <;> simp [SV.isBx] at hax <;> cases this
 rcases hform i k p h with ⟨h1, h2, a, h3, h4⟩ | h1 <;> rcases hform i' k' p h' with ⟨h1', h2', a', h3', h4'⟩ | h1'
 ·rw [h2] at h2'
  simp only [Prod.mk.injEq] at h2'
  exact h2'
 ·subst h1'
  obtain ⟨j, r, g1, g2, _⟩ := srcX_res h'
  rw [h2] at g2
  simp only [Prod.mk.injEq] at g2
  exact (hno j r g1 a (by rw [← g2.1]; exact h3) h4).elim
 ·subst h1
  obtain ⟨j, r, g1, g2, _⟩ := srcX_res h
  rw [h2'] at g2
  simp only [Prod.mk.injEq] at g2
  exact (hno j r g1 a' (by rw [← g2.1]; exact h3') h4').elim
 ·subst h1
  subst h1'
  obtain ⟨j, r, g1, g2, g3⟩ := srcX_res h
  obtain ⟨j', r', g1', g2', g3'⟩ := srcX_res h'
  rw [g2] at g2'
  simp only [Prod.mk.injEq] at g2'
  have := nodup_at rs hnd j j' r r' g1 g1' g2'.1
  refine ⟨rfl, ?_⟩
  omega
end
end Go.AM
end

section
namespace Go.AM
def flatF (P : Program) (rec : TypeId → Bool) (e : Nat) : List Field → Nat → Bool
 | [], _ => true
 | f :: fs, off => (f.name != "_") && (f.offset == off) &&
  (match P.underlying f.type with
   | some (.int _) => true
   | some .bool => true
   | some (.struct _) => rec f.type && (P.info? f.type).isSome
   | _ => false) &&
  (match leafs P e f.type with | some l => (P.cellsOf f.type == l.length) && flatF P rec e fs (off + l.length) | none => false)
def flatT (P : Program) : Nat → TypeId → Bool
 | 0, _ => false
 | e + 1, T =>
  match P.underlying T with
  | some (.struct fs) => flatF P (flatT P e) e fs.toList 0 && !P.stoodInHeld T
  | _ => false
def flatB (P : Program) (T : TypeId) : Bool := flatT P 8 T && !P.eqGuardType P.depth T
theorem kindsV_app : ∀ (L1 L2 : List Sh) (us : List Value), kindsV (L1 ++ L2) us → kindsV L1 (us.take L1.length) ∧ kindsV L2 (us.drop L1.length) ∧ (us.take L1.length).length = L1.length
 | [], L2, us, h => ⟨by simp [kindsV], by simpa using h, by simp⟩
 | s :: L1, L2, [], h => by cases s <;> exact h.elim
 | s :: L1, L2, u :: us, h => by
  cases s <;> cases u <;> try exact h.elim
  ·obtain ⟨h1, h2, h3⟩ := kindsV_app L1 L2 us h.2
   exact ⟨⟨h.1, h1⟩, h2, by simpa using h3⟩
  ·obtain ⟨h1, h2, h3⟩ := kindsV_app L1 L2 us h
   exact ⟨h1, h2, by simpa using h3⟩
theorem eqV_app : ∀ (L : List Sh) (a c b d : List Value), kindsV L a → kindsV L c → eqV (a ++ b) (c ++ d) = (eqV a c && eqV b d)
 | [], [], [], b, d, _, _ => by simp [eqV]
 | [], _ :: _, _, _, _, h, _ => h.elim
 | [], [], _ :: _, _, _, _, h => h.elim
 | s :: L, [], _, _, _, h, _ => by cases s <;> exact h.elim
 | s :: L, _ :: _, [], _, _, _, h => by cases s <;> exact h.elim
 | s :: L, x :: a, y :: c, b, d, h, h' => by
  cases s <;> cases x <;> (try exact h.elim) <;> cases y <;> try exact h'.elim
  ·simp only [List.cons_append, eqV, eqV_app L a c b d h.2 h'.2, Bool.and_assoc]
  ·simp only [List.cons_append, eqV, eqV_app L a c b d h h', Bool.and_assoc]
section
variable {P : Program}
def FlatEq (P : Program) (e k : Nat) (T : TypeId) : Prop := ∀ (L : List Sh) (us vs : List Value) (w : World), leafs P e T = some L → kindsV L us → kindsV L vs →
 (Op.equalIn (k + e) T (.agg us.toArray) (.agg vs.toArray)).run P w = .ok (eqV us vs) w
theorem flat_fields (e k : Nat) (rec : TypeId → Bool) (hrec : ∀ T, rec T = true → FlatEq P e k T) (w : World) (us vs : List Value) : ∀ (fs : List Field) (n : Nat) (L : List Sh), flatF P rec e fs n = true →
  fs.foldr (fun f acc => match leafs P e f.type, acc with | some a, some b => some (a ++ b) | _, _ => none) (some []) = some L → kindsV L (us.drop n) → kindsV L (vs.drop n) →
  (Op.eqFields (k + e) us.toArray vs.toArray fs).run P w = .ok (eqV (us.drop n) (vs.drop n)) w
 | [], n, L, _, hL, hu, hv => by
  simp only [List.foldr_nil, Option.some.injEq] at hL
  subst hL
  cases h : us.drop n with
  | nil => simp [Op.eqFields, eqV]
  | cons x l => rw [h] at hu; exact hu.elim
 | f :: fs, n, L, hf, hL, hu, hv => by
  simp only [flatF, Bool.and_eq_true, bne_iff_ne, ne_eq, beq_iff_eq] at hf
  obtain ⟨⟨⟨hname, hoff⟩, hty⟩, hrest⟩ := hf
  simp only [List.foldr_cons] at hL
  split at hL
  case h_2 => cases hL
  rename_i a L' ha hL'
  simp only [Option.some.injEq] at hL
  subst hL
  rw [ha] at hrest
  simp only [Bool.and_eq_true, beq_iff_eq] at hrest
  obtain ⟨hcells, hrest⟩ := hrest
  obtain ⟨u1, u2, u3⟩ := kindsV_app a L' _ hu
  obtain ⟨v1, v2, v3⟩ := kindsV_app a L' _ hv
  rw [List.drop_drop] at u2 v2
  have ih := flat_fields e k rec hrec w us vs fs (n + a.length) L' hrest hL' u2 v2
  have hus : us.drop n = (us.drop n).take a.length ++ us.drop (n + a.length) := by
   rw [← List.drop_drop, List.take_append_drop]
  have hvs : vs.drop n = (vs.drop n).take a.length ++ vs.drop (n + a.length) := by
   rw [← List.drop_drop, List.take_append_drop]
  have hev : eqV (us.drop n) (vs.drop n) = (eqV ((us.drop n).take a.length) ((vs.drop n).take a.length) && eqV (us.drop (n + a.length)) (vs.drop (n + a.length))) := by
   rw [hus, hvs]
   have := eqV_app a ((us.drop n).take a.length) ((vs.drop n).take a.length) (us.drop (n + a.length)) (vs.drop (n + a.length)) u1 v1
   rw [← hus, ← hvs] at this ⊢
   exact this
  rw [hev]
  -- the field's value
  suffices hx : ∃ x y, (part f.type us.toArray f.offset).run P w = .ok x w ∧ (part f.type vs.toArray f.offset).run P w = .ok y w ∧ (Op.equalIn (k + e) f.type x y).run P w = .ok (eqV ((us.drop n).take a.length) ((vs.drop n).take a.length)) w by
   obtain ⟨x, y, p1, p2, p3⟩ := hx
   simp only [Op.eqFields, hname, ne_eq, not_false_eq_true, if_true, Sem.run_bind, p1, p2, p3, Result.andThen_ok, Sem.run_ite]
   cases h : eqV ((us.drop n).take a.length) ((vs.drop n).take a.length)
   ·simp
   ·simpa using ih
  have he : ∃ e', e = e' + 1 := by
   cases e with
   | zero => simp [leafs] at ha
   | succ e' => exact ⟨e', rfl⟩
  obtain ⟨e', rfl⟩ := he
  have one : ∀ (l : List Value), ((l.drop n).take 1).length = 1 → ∃ x, (l.drop n).take 1 = [x] ∧ l[n]? = some x := by
   intro l hl
   cases h : l.drop n with
   | nil => rw [h] at hl; simp at hl
   | cons x r =>
    refine ⟨x, rfl, ?_⟩
    have := congrArg (fun l => l[0]?) h
    simpa using this
  split at hty
  ·rename_i kk hk
   have ha' : a = [.int kk] := by
    simp only [leafs, hk, Option.some.injEq] at ha
    exact ha.symm
   subst ha'
   obtain ⟨x, x1, x2⟩ := one us u3
   obtain ⟨y, y1, y2⟩ := one vs v3
   simp only [List.length_cons, List.length_nil, Nat.zero_add] at u1 v1 ⊢
   rw [x1] at u1 ⊢
   rw [y1] at v1 ⊢
   cases x <;> try exact u1.elim
   cases y <;> try exact v1.elim
   obtain ⟨rfl, _⟩ := u1
   obtain ⟨rfl, _⟩ := v1
   have p1 : ∀ (l : List Value) (x : Value), l[n]? = some x → (part f.type l.toArray f.offset).run P w = .ok x w := by
    intro l x h
    rw [hoff]
    have : l.toArray[n]? = some x := by simpa using h
    simp [part, isAgg, run_underlying hk, this]
   refine ⟨_, _, p1 us _ x2, p1 vs _ y2, ?_⟩
   rw [show k + (e' + 1) = (k + e') + 1 from rfl, run_equalIn_int w (k + e') f.type _ _ _ _ hk]
   simp [eqV]
  ·rename_i hk
   have ha' : a = [.bool] := by
    simp only [leafs, hk, Option.some.injEq] at ha
    exact ha.symm
   subst ha'
   obtain ⟨x, x1, x2⟩ := one us u3
   obtain ⟨y, y1, y2⟩ := one vs v3
   simp only [List.length_cons, List.length_nil, Nat.zero_add] at u1 v1 ⊢
   rw [x1] at u1 ⊢
   rw [y1] at v1 ⊢
   cases x <;> try exact u1.elim
   cases y <;> try exact v1.elim
   have p1 : ∀ (l : List Value) (x : Value), l[n]? = some x → (part f.type l.toArray f.offset).run P w = .ok x w := by
    intro l x h
    rw [hoff]
    have : l.toArray[n]? = some x := by simpa using h
    simp [part, isAgg, run_underlying hk, this]
   refine ⟨_, _, p1 us _ x2, p1 vs _ y2, ?_⟩
   rw [show k + (e' + 1) = (k + e') + 1 from rfl, run_equalIn_bool' w (k + e') f.type _ _ hk]
   simp [eqV]
  ·rename_i gs hk
   rw [Bool.and_eq_true] at hty
   obtain ⟨inf, hinf⟩ := Option.isSome_iff_exists.1 hty.2
   have hsz : P.cellsOf f.type = inf.size := cellsOf_info hinf
   have p1 : ∀ (l : List Value), (part f.type l.toArray f.offset).run P w = .ok (.agg ((l.drop n).take a.length).toArray) w := by
    intro l
    rw [hoff]
    have hag : (isAgg f.type).run P w = .ok true w := by simp [isAgg, run_underlying hk]
    have : l.toArray.extract n (n + inf.size) = ((l.drop n).take a.length).toArray := by
     apply Array.toList_inj.1
     rw [Array.toList_extract]
     simp [List.extract_eq_take_drop, ← hcells, hsz]
    rw [← hsz, hcells] at this
    simp [part, hag, run_sizeOf hinf, ← hsz, hcells]
   exact ⟨_, _, p1 us, p1 vs, hrec f.type hty.1 a _ _ w ha u1 v1⟩
  ·cases hty
theorem flat_eq : ∀ (e k : Nat) (T : TypeId), flatT P e T = true → FlatEq P e k T
 | 0, _, _, h => by simp [flatT] at h
 | e + 1, k, T, h => by
  intro L us vs w hL hu hv
  unfold flatT at h
  split at h
  ·rename_i fs hfs
   simp only [Bool.and_eq_true, Bool.not_eq_true'] at h
   have hfo : P.fieldsOf T = fs := by simp only [Program.fieldsOf, hfs]
   rw [show k + (e + 1) = (k + e) + 1 from rfl, run_equalIn_struct w (k + e) T _ _ (by rw [hfo]; exact hfs) h.2, hfo]
   have := flat_fields e k (flatT P e) (fun T' h' => flat_eq e k T' h') w us vs fs.toList 0 L h.1 (by
    rw [leafs] at hL
    simp only [hfs] at hL
    exact hL) (by simpa using hu) (by simpa using hv)
   simpa using this
  ·cases h
theorem plain_of {plain : List TypeId} (h : plain.all (flatB P) = true) : PlainSound P plain := by
 intro T hT
 rw [List.all_eq_true] at h
 have hf := h T hT
 unfold flatB at hf
 simp only [Bool.and_eq_true, Bool.not_eq_true'] at hf
 exact ⟨hf.2, fun L hL us vs hu hv w => flat_eq 8 9992 T hf.1 L us vs w hL hu hv⟩
end
end Go.AM
end

section
namespace Go.AM
def envL (l : List V) : Nat → V := fun n => (l[n]?).getD (.i 0)
abbrev I (z : Int) : AV := .val (.int .i64 z)
abbrev B (b : Bool) : AV := .val (.bool b)
theorem wrap_of {z : Int} (h1 : -(2 ^ 63 : Int) ≤ z) (h2 : z < 2 ^ 63) : IntKind.i64.wrap z = z := by
 have e : (2 : Int) ^ 63 = 9223372036854775808 := by decide
 rw [e] at h1 h2
 simp only [IntKind.wrap]
 have : IntKind.i64.signed = true := rfl
 simp [this, IntKind.bits]
 omega
theorem wrapu_of {z : Int} (h1 : 0 ≤ z) (h2 : z < 2 ^ 64) : IntKind.u64.wrap z = z := by
 have e : (2 : Int) ^ 64 = 18446744073709551616 := by decide
 rw [e] at h2
 simp only [IntKind.wrap]
 have : IntKind.u64.signed = false := rfl
 simp [this, IntKind.bits]
 omega
theorem add_i {a b : Int} (h1 : -(2 ^ 63 : Int) ≤ a + b) (h2 : a + b < 2 ^ 63) : iop .add .i64 a b = a + b := wrap_of h1 h2
theorem sub_i {a b : Int} (h1 : -(2 ^ 63 : Int) ≤ a - b) (h2 : a - b < 2 ^ 63) : iop .sub .i64 a b = a - b := wrap_of h1 h2
theorem mul_i {a b : Int} (h1 : -(2 ^ 63 : Int) ≤ a * b) (h2 : a * b < 2 ^ 63) : iop .mul .i64 a b = a * b := wrap_of h1 h2
theorem shl1 {b : Int} (h2 : b ≤ 62) : iop .shl .i64 1 b = 2 ^ b.toNat := by
 have hb : b.toNat ≤ 62 := by omega
 have hle : (2 : Int) ^ b.toNat ≤ 2 ^ 62 := by
  have := Nat.pow_le_pow_right (n := 2) (by omega) hb
  exact_mod_cast this
 have hpos : (0 : Int) < 2 ^ b.toNat := by
  have := Nat.pow_pos (n := b.toNat) (show 0 < 2 by omega)
  exact_mod_cast this
 have e62 : (2 : Int) ^ 62 = 4611686018427387904 := by decide
 have e63 : (2 : Int) ^ 63 = 9223372036854775808 := by decide
 have hmin : min b.toNat IntKind.i64.bits = b.toNat := by
  have : IntKind.i64.bits = 64 := rfl
  omega
 simp only [iop, hmin, Int.one_mul]
 rw [wrap_of (by omega) (by omega)]
theorem pow_pos2 (n : Nat) : (0 : Int) < 2 ^ n := by
 have := Nat.pow_pos (n := n) (show 0 < 2 by omega)
 exact_mod_cast this
theorem pow_le2 {m n : Nat} (h : m ≤ n) : (2 : Int) ^ m ≤ 2 ^ n := by
 have := Nat.pow_le_pow_right (n := 2) (by omega) h
 exact_mod_cast this
theorem cop_lss_t (a b : Int) : (cop .lss a b = true) = (a < b) := by simp [cop]
theorem cop_lss_f (a b : Int) : (cop .lss a b = false) = (b ≤ a) := by simp [cop]
theorem cop_leq_t (a b : Int) : (cop .leq a b = true) = (a ≤ b) := by simp [cop]
theorem cop_leq_f (a b : Int) : (cop .leq a b = false) = (b < a) := by simp [cop]
theorem cop_gtr_t (a b : Int) : (cop .gtr a b = true) = (b < a) := by simp [cop]
theorem cop_gtr_f (a b : Int) : (cop .gtr a b = false) = (a ≤ b) := by simp [cop]
theorem cop_geq_t (a b : Int) : (cop .geq a b = true) = (b ≤ a) := by simp [cop]
theorem cop_geq_f (a b : Int) : (cop .geq a b = false) = (a < b) := by simp [cop]
theorem cop_eql_t (a b : Int) : (cop .eql a b = true) = (a = b) := by simp [cop]
theorem cop_eql_f (a b : Int) : (cop .eql a b = false) = (a ≠ b) := by simp [cop]
theorem cop_neq_t (a b : Int) : (cop .neq a b = true) = (a ≠ b) := by simp [cop]
theorem cop_neq_f (a b : Int) : (cop .neq a b = false) = (a = b) := by simp [cop]
theorem bool_iff (x y : Bool) : (x = y) = (x = true ↔ y = true) := by cases x <;> cases y <;> simp
end Go.AM
end

section
namespace Go.AM
section
variable {P : Program} {E : Env}
theorem callOk_ofR {R : AV → List AV → Prop} (hm : P.follows .mixedOrders = true) (hps : PlainSound P E.plain) {f : FuncId} {fn : Func} (hf : P.funcs[f]? = some fn) (hname : (fn.name == "runtime.NumGoroutine") = false) {args : List SV} {n : Nat} {ρ : Nat → V}
  (hargs : ∀ a ∈ args, a.bd n) {res : AV} {outs : List AV} (hR : ∀ r os, R r os → SlotsW P (os ++ [r]) (outs ++ [res])) (h : (evFn P E fn args n).wp P R (fun _ _ => False) ρ) : CallOk P f (args.map (SV.den ρ)) res outs := by
 unfold evFn at h
 split at h
 case h_2 => exact h.elim
 rename_i code hbody
 dsimp only at h
 split at h
 case isFalse => exact h.elim
 rename_i hh
 obtain ⟨hnt, hnm, hal, hng, haf⟩ := hh
 have hat := argsFine_at args 0 haf
 refine ⟨⟨fn, hf, hname, by rw [hbody]; rfl⟩, ?_⟩
 intro w lim X cargs hcl hrel hdist hsize
 rw [List.length_map] at hcl
 have hgl : ∀ (as : List SV) (i : Nat), argsFine E as i = true → i + as.length ≤ E.nt + ((as.map (SV.den ρ)).countP AV.isG) ∨ as.length ≤ (as.map (SV.den ρ)).countP AV.isG := by
  intro as
  induction as with
  | nil => intro i _; exact .inr (Nat.zero_le _)
  | cons a as ih =>
   intro i hf
   have h0 := argsFine_at (a :: as) i hf 0 a rfl
   have hd : (a.den ρ).isG = a.isG := by cases a <;> first | rfl | (rename_i x; cases x <;> rfl)
   rw [List.map_cons, List.countP_cons, hd, List.length_cons]
   by_cases hg : a.isG = true
   ·rw [if_pos hg]
    rcases ih (i + 1) (argsFine_tail hf) with h1 | h1
    ·left; omega
    ·right; omega
   ·rw [if_neg hg]
    have h2 : i < E.nt := by
     rcases Nat.lt_or_ge i E.nt with h | h
     ·exact h
     ·exact (hg (h0.2.2 (by simpa using h))).elim
    rcases ih (i + 1) (argsFine_tail hf) with h1 | h1
    ·left; omega
    ·left; omega
 have hcn : cargs.length ≤ E.nt := by
  rcases hgl args 0 haf with h1 | h1 <;> omega
 have hcd : ∀ d, d < args.length → (∃ a, args[d]? = some a) := fun d hd => ⟨_, List.getElem?_eq_getElem hd⟩
 refine calls_of_wp hf hbody ?_
 let c : Ctx := ⟨P, w, lim, fun b => ∃ i k, X i k = some b, E.nt, fun d => match args[d]? with | some (.box _) => some (cargs.getD d undef) | _ => none, fun d => match args[d]? with | some (.gbox _) => X d 0 | _ => none⟩
 have hlow : usLow E (argUps args 0) := by
  unfold usLow
  rw [List.all_eq_true]
  intro u hu
  have := argUps_low args 0 E.top (by omega) u hu
  simpa using this
 have hσ : sden E (applyU (argUps args 0) (.leaf .dead)) ρ = argS (args.map (SV.den ρ)) := by
  rw [sden_applyU hnt ρ _ _ hlow]
  funext d
  rw [argUps_den, Nat.zero_add, Nat.sub_zero]
  split
  ·rfl
  ·rename_i hd
   have h1 : sden E (.leaf .dead) ρ d = .dead := by
    simp only [sden, gE]
    split <;> rfl
   have h2 : (args.map (SV.den ρ))[d]? = none := List.getElem?_eq_none (by rw [List.length_map]; omega)
   rw [h1]
   simp only [argS, h2]
   rfl
 have htm : ∀ d, (cargs.toArray ++ Array.replicate (fn.ntmps - cargs.toArray.size) undef).getD d undef = cargs.getD d undef := by
  intro d
  rw [List.getD_eq_getElem?_getD, Array.getD_eq_getD_getElem?, Array.getElem?_append]
  simp only [List.size_toArray, List.getElem?_toArray]
  split
  ·rfl
  ·rename_i h1
   rw [List.getElem?_eq_none (by omega), Array.getElem?_replicate]
   split <;> rfl
 have hpin : ∀ d v, c.pin d = some v → (∃ cs, args[d]? = some (.box cs)) ∧ v = cargs.getD d undef := by
  intro d v hv
  have hv' : (match args[d]? with | some (.box _) => some (cargs.getD d undef) | _ => none) = some v := hv
  split at hv'
  ·rename_i cs hcs
   simp only [Option.some.injEq] at hv'
   exact ⟨⟨cs, hcs⟩, hv'.symm⟩
  ·cases hv'
 have hsim : Sim c (sden E (applyU (argUps args 0) (.leaf .dead)) ρ) (cargs.toArray ++ Array.replicate (fn.ntmps - cargs.toArray.size) undef) w lim X := by
  rw [hσ]
  have hG : ∀ d, (argS (args.map (SV.den ρ)) d).isG = true ↔ ∃ cs, args[d]? = some (.gbox cs) := by
   intro d
   cases ha : args[d]? with
   | none =>
    have h2 : (args.map (SV.den ρ))[d]? = none := by rw [List.getElem?_map, ha]; rfl
    simp only [argS, h2]
    exact ⟨fun h => (by cases h), fun ⟨_, h⟩ => (by cases h)⟩
   | some a =>
    have h2 : argS (args.map (SV.den ρ)) d = a.den ρ := by simp only [argS, List.getElem?_map, ha]; rfl
    rw [h2]
    cases a with
    | gbox cs => exact ⟨fun _ => ⟨cs, rfl⟩, fun _ => rfl⟩
    | c x => exact ⟨fun h => (by cases x <;> cases h), fun ⟨_, h⟩ => (by cases h)⟩
    | _ => exact ⟨fun h => (by cases h), fun ⟨_, h⟩ => (by cases h)⟩
  refine ⟨fun d => by rw [htm d]; exact hrel d, ?_, fun d hd => ?_, fun d hd => ?_, hdist, fun d k b hb => ⟨hsize d k b hb, .inl ⟨d, k, hb⟩⟩, ⟨rfl, rfl, rfl, Nat.le_refl _, fun _ _ => rfl, fun _ _ _ => ⟨rfl, rfl⟩, Ext.refl w lim⟩, fun d v hv => ?_, fun d b hb => ?_⟩
  ·show _ = E.nt
   simp
   omega
  ·cases ha : args[d]? with
   | none =>
    left
    have h2 : (args.map (SV.den ρ))[d]? = none := by rw [List.getElem?_map, ha]; rfl
    simp only [argS, h2]
    rfl
   | some a =>
    right
    have h3 := (hat d a ha).2.2 (by rw [Nat.zero_add]; exact hd)
    refine (hG d).2 ?_
    cases a <;> simp [SV.isG] at h3
    exact ⟨_, ha⟩
  ·obtain ⟨cs, hcs⟩ := (hG d).1 hd
   have := (hat d _ hcs).2.1 rfl
   rwa [Nat.zero_add] at this
  ·obtain ⟨⟨cs, hcs⟩, rfl⟩ := hpin d v hv
   refine ⟨htm d, cs.map (BC.den ρ), ?_⟩
   simp only [argS, List.getElem?_map, hcs]
   rfl
  ·have hb' : (match args[d]? with | some (.gbox _) => X d 0 | _ => none) = some b := hb
   split at hb'
   ·rename_i cs hcs
    exact ⟨hb', (hG d).2 ⟨cs, hcs⟩⟩
   ·cases hb'
 have hfin : ∀ s' n' ρ' (A' : Nat → List V → Prop), stBd E s' n' → ((match resOf P (gE E s') fn.results.toList with
   | some r => if resFine args fn.results.toList = true then STree.ret r (outOf (gE E s') args 0) else .stuck 124
   | none => .stuck 120) : STree).wp P R A' ρ' → ∀ tm' w' lim' X', Sim c (sden E s' ρ') tm' w' lim' X' → ∃ v, (results fn tm').run P w' = .ok v w' ∧
    ∃ v1 lim1 X1, Ending.returned v = .returned v1 ∧ WStep w lim w' lim1 (fun b => ∃ i k, X i k = some b) ∧ outs.length = (args.map (SV.den ρ)).length ∧
     (∀ i, SlotR P w' lim1 X1 (argS (outs ++ [res])) i (argS (outs ++ [res]) i) (retAt (args.map (SV.den ρ)).length cargs v1 i)) ∧ Dist X1 ∧
     (∀ i k b, X1 i k = some b → b < w'.heap.size ∧ ((∃ i k, X i k = some b) ∨ w.heap.size ≤ b)) ∧ ∀ i, (argS (outs ++ [res]) i).isG = true → (argS (args.map (SV.den ρ)) i).isG = true ∧ X1 i 0 = X i 0 := by
  intro s' n' ρ' A' _ h' tm' w' lim' X' hsim'
  split at h'
  case h_2 => exact h'.elim
  rename_i r hr
  split at h'
  case isFalse => exact h'.elim
  rename_i hfine
  obtain ⟨res0, hres⟩ : ∃ y, SV.den ρ' r = y := ⟨_, rfl⟩
  obtain ⟨outs0, houts⟩ : ∃ y, (outOf (gE E s') args 0).map (SV.den ρ') = y := ⟨_, rfl⟩
  have hww := hR _ _ h'
  rw [hres, houts] at hww
  suffices hz : ∃ v, (results fn tm').run P w' = .ok v w' ∧
    ∃ v1 lim1 X1, Ending.returned v = .returned v1 ∧ WStep w lim w' lim1 (fun b => ∃ i k, X i k = some b) ∧ outs0.length = (args.map (SV.den ρ)).length ∧
     (∀ i, SlotR P w' lim1 X1 (argS (outs0 ++ [res0])) i (argS (outs0 ++ [res0]) i) (retAt (args.map (SV.den ρ)).length cargs v1 i)) ∧ Dist X1 ∧
     (∀ i k b, X1 i k = some b → b < w'.heap.size ∧ ((∃ i k, X i k = some b) ∨ w.heap.size ≤ b)) ∧ ∀ i, (argS (outs0 ++ [res0]) i).isG = true → (argS (args.map (SV.den ρ)) i).isG = true ∧ X1 i 0 = X i 0 by
   obtain ⟨v, hrun, v1, lim1, X1, he, hst, hol, hr, hd, hin, hgh⟩ := hz
   obtain ⟨X3, k1, k3, k2⟩ := slots_weak hr hww
   have hX3 : ∀ i k b, X3 i k = some b → X1 i k = some b := by
    intro i k b hb
    rcases k1 i k with e | e
    ·rw [← e]; exact hb
    ·rw [e] at hb; cases hb
   have hll : outs0.length = outs.length := by have := hww.1; simpa using this
   refine ⟨v, hrun, v1, lim1, X3, he, hst, by rw [← hll, hol], k2, dist_weak hd k1, fun i k b hb => hin i k b (hX3 i k b hb), fun i hi => ?_⟩
   obtain ⟨m1, m2⟩ := hgh i (slotsW_G hww hi)
   exact ⟨m1, by rw [k3 i (isG_isB hi), m2]⟩
  -- the value
  have hval : ∃ v, (results fn tm').run P w' = .ok v w' ∧ SlotR P w' lim' (fun i k => (srcX args fn.results.toList i k).bind fun p => X' p.1 p.2) (argS (outs0 ++ [res0])) args.length res0 v := by
   have hrow : ∀ k, srcX args fn.results.toList args.length k = match fn.results.toList with
     | [r] => if k = 0 then some (resSlot r, resIx r) else none
     | rs => match k with | 0 => none | k + 1 => (rs[k]?).map fun r => (resSlot r, resIx r) := by
    intro k
    unfold srcX
    rw [if_neg (Nat.lt_irrefl _), if_pos rfl]
    all_goals rfl
   unfold resOf at hr
   split at hr
   ·rename_i r0 hrs
    cases hx : resOne P (gE E s') r0 with
    | none => simp [hx] at hr
    | some x =>
     simp only [hx, Option.map_some, Option.some.injEq] at hr
     subst hr
     rw [tcSV_den] at hres
     subst hres
     obtain ⟨v, h1, h2⟩ := resOne_ok (c := c) rfl hsim' hx
     refine ⟨v, ?_, cellR_slotR ?_⟩
     ·exact run_results (vs := [v]) (by rw [hrs]; rfl) fun i r' v' hr' hv' => by
       rw [hrs] at hr'
       cases i with
       | zero =>
        simp only [List.getElem?_cons_zero, Option.some.injEq] at hr' hv'
        subst hr'
        subst hv'
        exact h1
       | succ i => simp at hr'
     ·show CellR P w' lim' ((srcX args fn.results.toList args.length 0).bind fun p => X' p.1 p.2) _ v
      rw [hrow, hrs]
      exact h2
   ·rename_i hne
    cases hx : resAll P (gE E s') fn.results.toList with
    | none => simp [hx] at hr
    | some xs =>
     simp only [hx, Option.map_some, Option.some.injEq] at hr
     subst hr
     subst hres
     obtain ⟨vs, g1, g2, g3⟩ := resAll_ok (c := c) rfl hsim' _ _ hx
     have hne1 : ∀ v, vs ≠ [v] := by
      intro v hv
      rw [hv] at g1
      obtain ⟨r', hr'⟩ := List.length_eq_one_iff.1 g1
      exact hne r' hr'
     refine ⟨.tuple vs.toArray, ?_, ?_⟩
     ·have := run_results g1 fun i r' v' hr' hv' => (g3 i r' v' hr' hv').1
      rw [this]
      rcases vs with _ | ⟨v, _ | ⟨u, l⟩⟩
      ·rfl
      ·exact (hne1 v rfl).elim
      ·rfl
     ·refine ⟨vs, rfl, by simp [g2], fun i y u hy hu => ?_⟩
      rw [List.getElem?_map] at hy
      cases hxi : xs[i]? with
      | none => simp [hxi] at hy
      | some x =>
       simp only [hxi, Option.map_some, Option.some.injEq] at hy
       subst hy
       obtain ⟨r', hr'⟩ : ∃ r', fn.results.toList[i]? = some r' := ⟨_, List.getElem?_eq_getElem (by rw [g1]; exact (List.getElem?_eq_some_iff.1 hu).1)⟩
       have h3 := (g3 i r' u hr' hu).2 x hxi
       have hsrc : srcX args fn.results.toList args.length (i + 1) = some (resSlot r', resIx r') := by
        rw [hrow]
        split
        ·rename_i r1 hr1; exact (hne r1 hr1).elim
        ·simp [hr']
       show CellR P w' lim' ((srcX args fn.results.toList args.length (i + 1)).bind fun p => X' p.1 p.2) _ u
       rw [hsrc]
       exact h3
  obtain ⟨v, hv1, hv2⟩ := hval
  have hol : outs0.length = args.length := by rw [← houts, List.length_map, outOf_len]
  have hrt : ∀ i, retAt (args.map (SV.den ρ)).length cargs v i = if i = args.length then v else cargs.getD i undef := by
   intro i
   unfold retAt
   rw [List.length_map]
  have hout : ∀ i, i < args.length → argS (outs0 ++ [res0]) i = match args[i]? with | some a => if a.isBx = true then sden E s' ρ' i else .dead | none => .dead := by
   intro i hi
   simp only [argS]
   rw [List.getElem?_append_left (by omega), ← houts, List.getElem?_map, outOf_at, Nat.zero_add]
   have := List.getElem?_eq_getElem hi
   rw [this]
   simp only [Option.map_some, Option.getD_some]
   split <;> rfl
  have hgpn : ∀ i cs, args[i]? = some (.gbox cs) → X' i 0 = X i 0 ∧ (sden E s' ρ' i).isG = true := by
   intro i cs hcs
   have hri := hrel i
   have h2 : argS (args.map (SV.den ρ)) i = .gbox (cs.map (BC.den ρ)) := by simp only [argS, List.getElem?_map, hcs]; rfl
   rw [h2] at hri
   obtain ⟨v', hp⟩ := hri
   obtain ⟨b, hb, _⟩ := plainR_ptr hp
   obtain ⟨g1, g2⟩ := hsim'.gpin i b (by show (match args[i]? with | some (.gbox _) => X i 0 | _ => none) = _; rw [hcs]; exact hb)
   exact ⟨by rw [g1, hb], g2⟩
  refine ⟨v, hv1, v, lim', fun i k => (srcX args fn.results.toList i k).bind fun p => X' p.1 p.2, rfl, ⟨hsim'.frm.os, hsim'.frm.tape, hsim'.frm.output, hsim'.frm.size, hsim'.frm.frz, hsim'.frm.blk, hsim'.frm.ext⟩, by rw [hol, List.length_map], fun i => ?_, fun d k d' k' b hb hb' => ?_, fun i k b hb => ?_, fun i hi => ?_⟩
  ·rw [hrt]
   rcases Nat.lt_trichotomy i args.length with hi | hi | hi
   ·rw [if_neg (by omega), hout i hi]
    obtain ⟨a, ha⟩ := hcd i hi
    rw [ha]
    dsimp only
    have hrow : a.isBx = true → (fun k => (srcX args fn.results.toList i k).bind fun p => X' p.1 p.2) = X' i := by
     intro hbx
     funext k
     unfold srcX
     rw [if_pos hi, ha, if_pos (by simp [hbx])]
     rfl
    cases a with
    | box cs =>
     rw [if_pos (show (SV.box cs).isBx = true from rfl)]
     obtain ⟨p1, cs', p2⟩ := hsim'.pin i (cargs.getD i undef) (by show (match args[i]? with | some (.box _) => some (cargs.getD i undef) | _ => none) = _; rw [ha])
     have hrl := hsim'.rel i
     rw [p2, p1] at hrl
     rw [p2]
     show PlainR P w' lim' (fun k => (srcX args fn.results.toList i k).bind fun p => X' p.1 p.2) cs' _
     rw [hrow rfl]
     exact hrl
    | gbox cs =>
     rw [if_pos (show (SV.gbox cs).isBx = true from rfl)]
     obtain ⟨_, g2⟩ := hgpn i cs ha
     have hrl := hsim'.rel i
     generalize sden E s' ρ' i = x at g2 hrl
     cases x <;> simp [AV.isG] at g2
     obtain ⟨v', hrl⟩ := hrl
     refine ⟨v', ?_⟩
     show PlainR P w' lim' (fun k => (srcX args fn.results.toList i k).bind fun p => X' p.1 p.2) _ v'
     rw [hrow rfl]
     exact hrl
    | _ => exact trivial
   ·subst hi
    have hout : argS (outs0 ++ [res0]) args.length = res0 := by
     simp only [argS]
     rw [List.getElem?_append_right (by omega), hol]
     simp
    rw [if_pos rfl, hout]
    exact hv2
   ·have hout : argS (outs0 ++ [res0]) i = .dead := by
     simp only [argS]
     rw [List.getElem?_eq_none (by simp; omega)]
     rfl
    rw [hout]
    trivial
  ·cases hp : srcX args fn.results.toList d k with
   | none => simp [hp] at hb
   | some p =>
    cases hp' : srcX args fn.results.toList d' k' with
    | none => simp [hp'] at hb'
    | some p' =>
     simp only [hp, hp', Option.bind_some] at hb hb'
     obtain ⟨e1, e2⟩ := hsim'.dist _ _ _ _ b hb hb'
     have : p = p' := Prod.ext e1 e2
     subst this
     exact srcX_inj hfine hp hp'
  ·cases hp : srcX args fn.results.toList i k with
   | none => simp [hp] at hb
   | some p =>
    simp only [hp, Option.bind_some] at hb
    exact hsim'.ours _ _ b hb
  ·rcases Nat.lt_trichotomy i args.length with hl | hl | hl
   ·rw [hout i hl] at hi
    obtain ⟨a, ha⟩ := hcd i hl
    rw [ha] at hi
    dsimp only at hi
    cases a with
    | gbox cs =>
     obtain ⟨g1, g2⟩ := hgpn i cs ha
     refine ⟨by simp only [argS, List.getElem?_map, ha]; rfl, ?_⟩
     show (srcX args fn.results.toList i 0).bind (fun p => X' p.1 p.2) = X i 0
     unfold srcX
     rw [if_pos hl, ha, if_pos (show (some (SV.gbox cs)).map SV.isBx = some true from rfl)]
     exact g1
    | box cs =>
     obtain ⟨p1, cs', p2⟩ := hsim'.pin i (cargs.getD i undef) (by show (match args[i]? with | some (.box _) => some (cargs.getD i undef) | _ => none) = _; rw [ha])
     rw [if_pos (show (SV.box cs).isBx = true from rfl), p2] at hi
     cases hi
    | _ => cases hi
   ·subst hl
    have hres0 : argS (outs0 ++ [res0]) args.length = res0 := by
     simp only [argS]
     rw [List.getElem?_append_right (by omega), hol]
     simp
    rw [hres0, ← hres] at hi
    unfold resOf at hr
    split at hr
    ·obtain ⟨x, _, rfl⟩ := Option.map_eq_some_iff.1 hr
     rw [tcSV_den] at hi
     cases x with
     | c y => cases y <;> cases hi
     | _ => cases hi
    ·obtain ⟨x, _, rfl⟩ := Option.map_eq_some_iff.1 hr
     cases hi
   ·have : argS (outs0 ++ [res0]) i = .dead := by
     simp only [argS]
     rw [List.getElem?_eq_none (by simp; omega)]
     rfl
    rw [this] at hi
    cases hi
 refine ev_sound hm hps hnt (c := c) rfl rfl (fun d v hv => ?_) (fun d b hb => ?_) code 0 n _ _ _ _ _ ρ _ w lim X _ ?_ h hsim ?_ ?_ ?_
 ·obtain ⟨⟨cs, hcs⟩, _⟩ := hpin d v hv
  have := (hat d _ hcs).1 cs rfl
  rwa [Nat.zero_add] at this
 ·have hb' : (match args[d]? with | some (.gbox _) => X d 0 | _ => none) = some b := hb
  split at hb'
  ·rename_i cs hcs
   have h1 := (hat d _ hcs).2.1 rfl
   have h2 := (List.getElem?_eq_some_iff.1 hcs).1
   exact ⟨by omega, by omega⟩
  ·cases hb'
 ·refine stBd_applyU hnt _ _ hlow (fun d => ?_) (argUps_bd args 0 hargs)
  unfold gE
  split <;> trivial
 ·intro s' n' ρ' A' _ hs' h' tm' w' lim' X' hsim'
  obtain ⟨v, h1, h2⟩ := hfin s' n' ρ' A' hs' h' tm' w' lim' X' hsim'
  exact ⟨rfl, v, h1, h2⟩
 ·intro id s' n' ρ' A' _ hs' h'
  exact h'.elim
 ·intro s' n' ρ' A' _ hs' h' tm' w' lim' X' hsim'
  obtain ⟨v, h1, h2⟩ := hfin s' n' ρ' A' hs' h' tm' w' lim' X' hsim'
  exact ⟨rfl, v, h1, h2⟩
end
end Go.AM
end

section
namespace Go.AM
@[reducible] def Sh.T : Sh → Type
 | .int _ => Int
 | .bool => Bool
 | .str => ByteArray
 | .slice _ => List (List AV)
 | .own _ _ => List (List AV)
@[reducible] def ShsT : List Sh → Type
 | [] => Unit
 | [s] => s.T
 | s :: t :: r => s.T × ShsT (t :: r)
def Sh.toV : (s : Sh) → s.T → V
 | .int _, z => .i z
 | .bool, z => .b z
 | .str, z => .s z
 | .slice _, z => .l z
 | .own _ _, z => .l z
def Sh.ofV : (s : Sh) → V → Option s.T
 | .int _, .i z => some z
 | .bool, .b z => some z
 | .str, .s z => some z
 | .slice _, .l z => some z
 | .own _ _, .l z => some z
 | _, _ => none
def toVs : (l : List Sh) → ShsT l → List V
 | [], _ => []
 | [s], x => [s.toV x]
 | s :: t :: r, x => s.toV x.1 :: toVs (t :: r) x.2
def ofVs : (l : List Sh) → List V → Option (ShsT l)
 | [], [] => some ()
 | [], _ :: _ => none
 | [s], [v] => s.ofV v
 | [_], [] => none
 | [_], _ :: _ :: _ => none
 | _ :: _ :: _, [] => none
 | s :: t :: r, v :: vs => match s.ofV v, ofVs (t :: r) vs with | some a, some b => some (a, b) | _, _ => none
theorem ofV_toV {s : Sh} {v : V} {x : s.T} (h : s.ofV v = some x) : s.toV x = v := by
 cases s <;> cases v <;> simp [Sh.ofV] at h <;> subst h <;> rfl
theorem ofVs_toVs : ∀ (l : List Sh) (vs : List V) (x : ShsT l), ofVs l vs = some x → toVs l x = vs
 | [], [], _, _ => rfl
 | [], _ :: _, _, h => by simp [ofVs] at h
 | [s], [v], x, h => by simp only [toVs, ofV_toV (show s.ofV v = some x from h)]
 | [_], [], _, h => by simp [ofVs] at h
 | [_], _ :: _ :: _, _, h => by simp [ofVs] at h
 | _ :: _ :: _, [], _, h => by simp [ofVs] at h
 | s :: t :: r, v :: vs, x, h => by
  simp only [ofVs] at h
  split at h
  ·rename_i a b ha hb
   simp only [Option.some.injEq] at h
   subst h
   simp only [toVs, ofV_toV ha, ofVs_toVs (t :: r) vs b hb]
  ·cases h
def Sh.ofE : (s : Sh) → AV → Option s.T
 | .int k, .val (.int k' z) => if k' = k then some z else none
 | .bool, .val (.bool b) => some b
 | .str, .val (.string b) => some b
 | .slice s, .slice false s' xs => if s' = s then some xs else none
 | _, _ => none
def ofEs : (l : List Sh) → List AV → Option (ShsT l)
 | [], [] => some ()
 | [], _ :: _ => none
 | [s], [c] => s.ofE c
 | [_], [] => none
 | [_], _ :: _ :: _ => none
 | _ :: _ :: _, [] => none
 | s :: t :: r, c :: cs => match s.ofE c, ofEs (t :: r) cs with | some a, some b => some (a, b) | _, _ => none
theorem ofE_den {s : Sh} {c : AV} {x : s.T} {n : Nat} {ρ : Nat → V} (h : s.ofE c = some x) (hρ : ρ n = s.toV x) : (shapeAt s n).den ρ = c := by
 unfold Sh.ofE at h
 split at h
 ·split at h
  ·simp only [Option.some.injEq] at h
   subst h
   rename_i hk
   subst hk
   simp only [shapeAt, SC.den, IE.den, hρ, Sh.toV, V.int]
  ·cases h
 ·simp only [Option.some.injEq] at h
  subst h
  simp only [shapeAt, SC.den, BE.den, hρ, Sh.toV, V.bool]
 ·simp only [Option.some.injEq] at h
  subst h
  simp only [shapeAt, SC.den, SE.den, hρ, Sh.toV, V.str]
 ·split at h
  ·simp only [Option.some.injEq] at h
   subst h
   rename_i hk
   subst hk
   simp only [shapeAt, SC.den, LE.den, hρ, Sh.toV, V.list]
  ·cases h
 ·cases h
theorem ofEs_den : ∀ (l : List Sh) (cs : List AV) (x : ShsT l) (n : Nat) (ρ : Nat → V), ofEs l cs = some x → Fill ρ n (toVs l x) → (shapesAt l n).map (SC.den ρ) = cs
 | [], [], _, _, _, _, _ => rfl
 | [], _ :: _, _, _, _, h, _ => by simp [ofEs] at h
 | [s], [c], x, n, ρ, h, hf => by
  have h0 := hf 0 _ (show (toVs [s] x)[0]? = some (s.toV x) from rfl)
  rw [Nat.add_zero] at h0
  simp only [shapesAt, List.map_cons, List.map_nil, ofE_den (show s.ofE c = some x from h) h0]
 | [_], [], _, _, _, h, _ => by simp [ofEs] at h
 | [_], _ :: _ :: _, _, _, _, h, _ => by simp [ofEs] at h
 | _ :: _ :: _, [], _, _, _, h, _ => by simp [ofEs] at h
 | s :: t :: r, c :: cs, x, n, ρ, h, hf => by
  simp only [ofEs] at h
  split at h
  ·rename_i a b ha hb
   simp only [Option.some.injEq] at h
   subst h
   obtain ⟨h0, h1⟩ := Fill.tail (show Fill ρ n (s.toV a :: toVs (t :: r) b) from hf)
   have h2 := ofEs_den (t :: r) cs b (n + 1) ρ hb h1
   rw [shapesAt, List.map_cons, ofE_den ha h0, h2]
  ·cases h
def reqK {γ : Type} (p : Prop) [Decidable p] (x : Option γ) : Option γ := if p then x else none
theorem reqK_pos {γ : Type} {p : Prop} {_ : Decidable p} (h : p) (x : Option γ) : reqK p x = x := if_pos h
theorem reqK_some {γ : Type} {p : Prop} {_ : Decidable p} {x : Option γ} {r : γ} (h : reqK p x = some r) : p ∧ x = some r := by
 unfold reqK at h
 split at h
 ·exact ⟨‹_›, h⟩
 ·cases h
def eqVal : Value → Value → Bool
 | .int k z, .int k' z' => decide (k = k') && decide (z = z')
 | .bool b, .bool b' => b == b'
 | .string s, .string s' => decide (s = s')
 | _, _ => false
theorem eqVal_sound {a b : Value} (h : eqVal a b = true) : a = b := by
 unfold eqVal at h
 split at h
 ·simp only [Bool.and_eq_true, decide_eq_true_eq] at h
  rw [h.1, h.2]
 ·rw [beq_iff_eq] at h
  rw [h]
 ·rw [decide_eq_true_eq] at h
  rw [h]
 ·cases h
def eqLs {α : Type} (q : α → α → Bool) : List α → List α → Bool
 | [], [] => true
 | a :: as, b :: bs => q a b && eqLs q as bs
 | _, _ => false
theorem eqLs_sound {α : Type} {q : α → α → Bool} (hq : ∀ a b, q a b = true → a = b) : ∀ (as bs : List α), eqLs q as bs = true → as = bs
 | [], [], _ => rfl
 | [], _ :: _, h => by cases h
 | _ :: _, [], h => by cases h
 | a :: as, b :: bs, h => by
  simp only [eqLs, Bool.and_eq_true] at h
  rw [hq a b h.1, eqLs_sound hq as bs h.2]
def eqAV : Nat → AV → AV → Bool
 | _, .val a, .val b => eqVal a b
 | n + 1, .slice f s xs, .slice f' s' ys => f == f' && (decide (s = s') && eqLs (eqLs (eqAV n)) xs ys)
 | _, _, _ => false
theorem eqAV_sound : ∀ (n : Nat) (a b : AV), eqAV n a b = true → a = b := by
 intro n
 induction n with
 | zero =>
  intro a b h
  unfold eqAV at h
  split at h
  ·rw [eqVal_sound h]
  ·rename_i hn; cases hn
  ·cases h
 | succ n ih =>
  intro a b h
  unfold eqAV at h
  split at h
  ·rw [eqVal_sound h]
  ·rename_i hn
   cases hn
   simp only [Bool.and_eq_true, beq_iff_eq, decide_eq_true_eq] at h
   rw [h.1, h.2.1, eqLs_sound (fun x y hxy => eqLs_sound ih x y hxy) _ _ h.2.2]
  ·cases h
section
open Classical in
noncomputable instance decLL : DecidableEq (List (List AV)) := fun a b => if h : eqLs (eqLs (eqAV 8)) a b = true then isTrue (eqLs_sound (fun x y hxy => eqLs_sound (eqAV_sound 8) x y hxy) _ _ h) else propDecidable _
end
@[reducible] noncomputable def Sh.dec : (s : Sh) → DecidableEq s.T
 | .int _ => inferInstanceAs (DecidableEq Int)
 | .bool => inferInstanceAs (DecidableEq Bool)
 | .str => inferInstanceAs (DecidableEq ByteArray)
 | .slice _ => decLL
 | .own _ _ => decLL
@[reducible] noncomputable def decS : (l : List Sh) → DecidableEq (ShsT l)
 | [] => inferInstanceAs (DecidableEq Unit)
 | [s] => s.dec
 | s :: t :: r => @instDecidableEqProd _ _ s.dec (decS (t :: r))
def nilK {γ : Type} [d : DecidableEq γ] (l : List (List AV)) (k : Bool → Option γ) : Option γ :=
 match l with
 | [] => if k true = k false then k true else none
 | _ :: _ => k false
theorem nilK_some {γ : Type} {d : DecidableEq γ} {l : List (List AV)} {k : Bool → Option γ} {r : γ} (h : nilK l k = some r) (b : Bool) (hb : b = true → l = []) : k b = some r := by
 unfold nilK at h
 split at h
 ·split at h
  ·rename_i he
   cases b
   ·rw [← he]; exact h
   ·exact h
  ·cases h
 ·cases b
  ·exact h
  ·cases hb rfl
theorem nilK_of {γ : Type} {d : DecidableEq γ} {l : List (List AV)} {k : Bool → Option γ} {r : Option γ} (h1 : l = [] → k true = r) (h2 : k false = r) : nilK l k = r := by
 unfold nilK
 split
 ·rw [h1 rfl, h2, if_pos rfl]
 ·exact h2
def elemK {γ : Type} (l : List (List AV)) (i : Int) (sh : List Sh) (k : ShsT sh → Option γ) : Option γ :=
 if 0 ≤ i then match l[i.toNat]? with | some cs => (match ofEs sh cs with | some r => k r | none => none) | none => none else none
theorem elemK_at {γ : Type} {l : List (List AV)} {i : Int} {sh : List Sh} {cs : List AV} {r : ShsT sh} (k : ShsT sh → Option γ) (h0 : 0 ≤ i) (h1 : l[i.toNat]? = some cs) (h2 : ofEs sh cs = some r) : elemK l i sh k = k r := by
 simp only [elemK, h0, if_true, h1, h2]
theorem elemK_some {γ : Type} {l : List (List AV)} {i : Int} {sh : List Sh} {k : ShsT sh → Option γ} {x : γ} (h : elemK l i sh k = some x) : 0 ≤ i ∧ ∃ cs r, l[i.toNat]? = some cs ∧ ofEs sh cs = some r ∧ k r = some x := by
 unfold elemK at h
 split at h
 ·refine ⟨‹_›, ?_⟩
  split at h
  ·split at h
   ·exact ⟨_, _, ‹_›, ‹_›, h⟩
   ·cases h
  ·cases h
 ·cases h
def iterL {γ : Type} (F : (List V → Option γ) → List V → Option γ) : Nat → List V → Option γ
 | 0 => fun _ => none
 | k + 1 => F (iterL F k)
def FUEL : Nat := 1208925819614629174706176
inductive AP where
 | c (s : Sh)
 | agg (l : List Sh)
 | box (l : List Sh)
 | gbox (l : List Sh)
 | clo (g : FuncId) (ds : List Nat)
 | dead
def RSh.sh : RSh → List Sh
 | .c s => [s]
 | .agg l => l
def outShs : List AP → List Sh
 | [] => []
 | .box l :: r => l ++ outShs r
 | .gbox l :: r => l ++ outShs r
 | _ :: r => outShs r
def shsOf (rs : List RSh) (aps : List AP) : List Sh := rs.flatMap RSh.sh ++ outShs aps
structure Fun where
 args : List AP
 res : List RSh
 g : List V → Option (ShsT (shsOf res args))
def compDen (r : RSh) (us : List V) (j : Nat) : AV :=
 match r with
 | .c s => shDen s (vAt us j)
 | .agg l => .agg (shsDen l us j)
def compsDen : List RSh → List V → Nat → List AV
 | [], _, _ => []
 | r :: rs, us, j => compDen r us j :: compsDen rs us (j + r.sh.length)
def resDen (rs : List RSh) (us : List V) (j : Nat) : AV :=
 match rs with
 | [r] => compDen r us j
 | rs => .tuple (compsDen rs us j)
def outsDen : List AP → List V → Nat → List AV
 | [], _, _ => []
 | .box l :: r, us, j => .box (shsDen l us j) :: outsDen r us (j + l.length)
 | .gbox l :: r, us, j => .gbox (shsDen l us j) :: outsDen r us (j + l.length)
 | _ :: r, us, j => .dead :: outsDen r us j
def AP.n : AP → Nat
 | .c _ => 1
 | .agg l => l.length
 | .box l => l.length
 | .gbox l => l.length
 | .clo _ _ => 0
 | .dead => 0
def apDen (a : AP) (us : List V) (j : Nat) : AV :=
 match a with
 | .c s => shDen s (vAt us j)
 | .agg l => .agg (shsDen l us j)
 | .box l => .box (shsDen l us j)
 | .gbox l => .gbox (shsDen l us j)
 | .clo g ds => .clo g ds
 | .dead => .dead
def apsDen : List AP → List V → Nat → List AV
 | [], _, _ => []
 | a :: r, us, j => apDen a us j :: apsDen r us (j + a.n)
def resN (rs : List RSh) : Nat := (rs.flatMap RSh.sh).length
def Fun.Ok (P : Program) (f : FuncId) (S : Fun) : Prop :=
 ∀ vs r, S.g vs = some r → CallOk P f (apsDen S.args vs 0) (resDen S.res (toVs _ r) 0) (outsDen S.args (toVs _ r) (resN S.res))
def OkAll (P : Program) : List (FuncId × Fun) → Prop
 | [] => True
 | p :: r => p.2.Ok P p.1 ∧ OkAll P r
def AP.sig : AP → Option (FuncId × List Nat)
 | .clo g ds => some (g, ds)
 | _ => none
def SV.sig : SV → Option (FuncId × List Nat)
 | .clo g ds => some (g, ds)
 | _ => none
def lookF : List (FuncId × Fun) → FuncId → List (FuncId × List Nat) → Option Fun
 | [], _, _ => none
 | p :: r, f, sg => if p.1 = f ∧ p.2.args.filterMap AP.sig = sg then some p.2 else lookF r f sg
theorem lookF_ok {P : Program} : ∀ {Φ : List (FuncId × Fun)} {f : FuncId} {sg : List (FuncId × List Nat)} {S : Fun}, OkAll P Φ → lookF Φ f sg = some S → S.Ok P f
 | [], _, _, _, _, h => by simp [lookF] at h
 | p :: r, f, sg, S, ho, h => by
  simp only [lookF] at h
  split at h
  ·rename_i hp
   simp only [Option.some.injEq] at h
   obtain ⟨hp, _⟩ := hp
   subst hp
   subst h
   exact ho.1
  ·exact lookF_ok ho.2 h
def decC (P : Program) : Sh → AV → Option V
 | .int k, .val (.int k' z) => if k' = k then some (.i z) else none
 | .bool, .val (.bool b) => some (.b b)
 | .str, .val (.string s) => some (.s s)
 | .slice s, .slice _ s' xs => if s' = s then some (.l xs) else (match xs with | [] => some (.l []) | _ :: _ => none)
 | .slice s, .own x e xs => if P.cellsOf e = s then (match x, xs with | false, xs => some (.l xs) | true, [] => some (.l []) | true, _ :: _ => none) else none
 | .own x e, .own x' e' xs => if e' = e then (match x, x', xs with | false, false, xs => some (.l xs) | true, true, xs => some (.l xs) | _, _, [] => some (.l []) | _, _, _ :: _ => none) else none
 | .own _ _, .slice true _ xs => (match xs with | [] => some (.l []) | _ :: _ => none)
 | _, _ => none
def decCs (P : Program) : List Sh → List AV → Option (List V)
 | [], [] => some []
 | s :: ss, c :: cs => match decC P s c, decCs P ss cs with | some v, some vs => some (v :: vs) | _, _ => none
 | _, _ => none
def decA (P : Program) : AP → AV → Option (List V)
 | .c s, x => (decC P s x).map fun v => [v]
 | .agg l, .agg cs => if l.all Sh.imm = true then decCs P l cs else none
 | .box l, .box cs => decCs P l cs
 | .gbox l, .gbox cs => decCs P l cs
 | .clo g ds, .clo g' ds' => if g' = g ∧ ds' = ds then some [] else none
 | .dead, .dead => some []
 | _, _ => none
def decAs (P : Program) : List AP → List AV → Option (List V)
 | [], [] => some []
 | a :: as, x :: xs => match decA P a x, decAs P as xs with | some vs, some us => some (vs ++ us) | _, _ => none
 | _, _ => none
theorem decC_ok {P : Program} {s : Sh} {c : AV} {v : V} (h : decC P s c = some v) : CellW P c (shDen s v) := by
 unfold decC at h
 split at h
 ·split at h
  ·simp only [Option.some.injEq] at h; subst h; rename_i hk; subst hk; exact .same (.inl rfl)
  ·cases h
 ·simp only [Option.some.injEq] at h; subst h; exact .same (.inl rfl)
 ·simp only [Option.some.injEq] at h; subst h; exact .same (.inl rfl)
 ·split at h
  ·simp only [Option.some.injEq] at h; subst h; rename_i hk; subst hk; exact .imm
  ·split at h
   ·simp only [Option.some.injEq] at h; subst h; exact .immN
   ·cases h
 ·split at h
  ·rename_i hk
   subst hk
   split at h
   ·simp only [Option.some.injEq] at h; subst h; exact .own
   ·simp only [Option.some.injEq] at h; subst h; exact .ownZ
   ·cases h
  ·cases h
 ·split at h
  ·rename_i hk
   subst hk
   split at h
   ·simp only [Option.some.injEq] at h; subst h; exact .same (.inr ⟨_, _, _, rfl⟩)
   ·simp only [Option.some.injEq] at h; subst h; exact .same (.inr ⟨_, _, _, rfl⟩)
   ·simp only [Option.some.injEq] at h; subst h; exact .ownN
   ·cases h
  ·cases h
 ·split at h
  ·simp only [Option.some.injEq] at h; subst h; exact .give
  ·cases h
 ·cases h
theorem decCs_ok {P : Program} : ∀ (l : List Sh) (cs : List AV) (vs : List V), decCs P l cs = some vs → vs.length = l.length ∧ cs.length = l.length ∧ ∀ pre post : List V,
  ∀ (i : Nat) (c c' : AV), cs[i]? = some c → (shsDen l (pre ++ vs ++ post) pre.length)[i]? = some c' → CellW P c c'
 | [], [], vs, h => by
  simp only [decCs, Option.some.injEq] at h
  subst h
  exact ⟨rfl, rfl, fun _ _ i c c' h => by simp at h⟩
 | [], _ :: _, _, h => by simp [decCs] at h
 | _ :: _, [], _, h => by simp [decCs] at h
 | s :: ss, c :: cs, us, h => by
  simp only [decCs] at h
  split at h
  ·rename_i v vs hv hvs
   simp only [Option.some.injEq] at h
   subst h
   obtain ⟨h1, h2, h3⟩ := decCs_ok (P := P) ss cs vs hvs
   refine ⟨by simp [h1], by simp [h2], fun pre post i c1 c2 hc1 hc2 => ?_⟩
   cases i with
   | zero =>
    simp only [shsDen, List.getElem?_cons_zero, Option.some.injEq] at hc1 hc2
    subst hc1
    subst hc2
    rw [List.append_assoc, List.cons_append, vAt_mid]
    exact decC_ok hv
   | succ i =>
    have := h3 (pre ++ [v]) post i c1 c2 (by simpa using hc1)
    simp only [List.append_assoc, List.cons_append, List.nil_append, List.length_append, List.length_cons, List.length_nil] at this
    simp only [shsDen, List.getElem?_cons_succ, List.append_assoc, List.cons_append] at hc2
    exact this hc2
  ·cases h
theorem decA_ok {P : Program} {a : AP} {x : AV} {vs : List V} (h : decA P a x = some vs) : vs.length = a.n ∧ ((∃ g ds, a = .clo g ds ∧ x = .clo g ds) ∨ ∀ pre post : List V, SlotW P x (apDen a (pre ++ vs ++ post) pre.length)) := by
 unfold decA at h
 split at h
 ·cases hd : decC P _ x with
  | none => rw [hd] at h; cases h
  | some v =>
   rw [hd] at h
   simp only [Option.map_some, Option.some.injEq] at h
   subst h
   refine ⟨rfl, .inr fun pre post => ?_⟩
   simp only [apDen, List.append_assoc, List.cons_append, List.nil_append, vAt_mid]
   exact .comp (.cell (decC_ok hd))
 ·rename_i l cs
  split at h
  ·rename_i hi
   obtain ⟨h1, h2, h3⟩ := decCs_ok (P := P) _ _ _ h
   exact ⟨h1, .inr fun pre post => .comp (.agg (by rw [h2, shsDen_len]) (shsDen_cell _ _ _ hi) (h3 pre post))⟩
  ·cases h
 ·obtain ⟨h1, h2, h3⟩ := decCs_ok (P := P) _ _ _ h
  exact ⟨h1, .inr fun pre post => .box (by rw [h2, shsDen_len]) (h3 pre post)⟩
 ·obtain ⟨h1, h2, h3⟩ := decCs_ok (P := P) _ _ _ h
  exact ⟨h1, .inr fun pre post => .gbox (by rw [h2, shsDen_len]) (h3 pre post)⟩
 ·split at h
  ·rename_i hh
   simp only [Option.some.injEq] at h
   subst h
   obtain ⟨rfl, rfl⟩ := hh
   exact ⟨rfl, .inl ⟨_, _, rfl, rfl⟩⟩
  ·cases h
 ·simp only [Option.some.injEq] at h
  subst h
  exact ⟨rfl, .inr fun _ _ => .dead⟩
 ·cases h
theorem apsDen_len : ∀ (l : List AP) (us : List V) (j : Nat), (apsDen l us j).length = l.length
 | [], _, _ => rfl
 | _ :: ss, us, j => by simp [apsDen, apsDen_len ss us]
theorem decAs_ok {P : Program} : ∀ (as : List AP) (xs : List AV) (vs : List V), decAs P as xs = some vs → xs.length = as.length ∧ ∀ pre post : List V,
  ∀ (i : Nat) (c c' : AV), xs[i]? = some c → (apsDen as (pre ++ vs ++ post) pre.length)[i]? = some c' → (∃ g ds, as[i]? = some (.clo g ds) ∧ c = .clo g ds ∧ c' = .clo g ds) ∨ SlotW P c c'
 | [], [], _, _ => ⟨rfl, fun _ _ i c c' h => by simp at h⟩
 | [], _ :: _, _, h => by simp [decAs] at h
 | _ :: _, [], _, h => by simp [decAs] at h
 | a :: as, x :: xs, ws, h => by
  simp only [decAs] at h
  split at h
  ·rename_i vs us hv hus
   simp only [Option.some.injEq] at h
   subst h
   obtain ⟨h1, h2⟩ := decA_ok (P := P) hv
   obtain ⟨h3, h4⟩ := decAs_ok (P := P) as xs us hus
   refine ⟨by simp [h3], fun pre post i c1 c2 hc1 hc2 => ?_⟩
   cases i with
   | zero =>
    simp only [apsDen, List.getElem?_cons_zero, Option.some.injEq] at hc1 hc2
    subst hc1
    subst hc2
    rcases h2 with ⟨g, ds, rfl, rfl⟩ | h2
    ·exact .inl ⟨g, ds, rfl, rfl, rfl⟩
    ·have := h2 pre (us ++ post)
     exact .inr (by simpa [List.append_assoc] using this)
   | succ i =>
    have := h4 (pre ++ vs) post i c1 c2 (by simpa using hc1)
    rw [List.length_append, h1] at this
    simp only [apsDen, List.getElem?_cons_succ] at hc2
    refine this ?_
    simpa [List.append_assoc] using hc2
  ·cases h
def apsClosed (as : List AP) : Bool := as.all fun a => match a with | .clo _ ds => ds.all (fun d => match as[d]? with | some (.gbox _) => true | _ => false) | _ => true
theorem apsDen_at : ∀ (as : List AP) (us : List V) (j i : Nat) (a : AP), as[i]? = some a → ∃ k, (apsDen as us j)[i]? = some (apDen a us k)
 | [], _, _, _, _, h => by simp at h
 | b :: as, us, j, 0, a, h => by
  simp only [List.getElem?_cons_zero, Option.some.injEq] at h
  subst h
  exact ⟨j, rfl⟩
 | b :: as, us, j, i + 1, a, h => by
  obtain ⟨k, hk⟩ := apsDen_at as us (j + b.n) i a (by simpa using h)
  exact ⟨k, by simpa [apsDen] using hk⟩
theorem decAs_slots {P : Program} {as : List AP} {xs : List AV} {vs : List V} (hc : apsClosed as = true) (h : decAs P as xs = some vs) : SlotsW P xs (apsDen as vs 0) := by
 obtain ⟨h1, h2⟩ := decAs_ok (P := P) as xs vs h
 refine ⟨by rw [h1, apsDen_len], fun i c c' hx hc' => ?_⟩
 rcases h2 [] [] i c c' hx (by simpa using hc') with ⟨g, ds, k1, rfl, rfl⟩ | hw
 ·refine .inr ⟨g, ds, rfl, rfl, fun d hd => ?_⟩
  unfold apsClosed at hc
  rw [List.all_eq_true] at hc
  have h3 := hc _ (List.mem_of_getElem? k1)
  simp only at h3
  rw [List.all_eq_true] at h3
  have h4 := h3 d hd
  split at h4
  ·rename_i l hl
   obtain ⟨k, hk⟩ := apsDen_at as vs 0 d _ hl
   simp only [argS, hk]
   rfl
  ·cases h4
 ·exact .inl hw
def frzAV (a : AP) (x : AV) : AV :=
 match a, x with
 | .c (.slice _), .own true e xs => .own false e xs
 | .c (.own false _), .own true e xs => .own false e xs
 | _, x => x
def frzAs : List AP → List AV → List AV
 | a :: as, x :: xs => frzAV a x :: frzAs as xs
 | _, xs => xs
theorem frzAV_cases (a : AP) (x : AV) : frzAV a x = x ∨ ∃ e xs, x = .own true e xs ∧ frzAV a x = .own false e xs := by
 unfold frzAV
 split
 ·exact .inr ⟨_, _, rfl, rfl⟩
 ·exact .inr ⟨_, _, rfl, rfl⟩
 ·exact .inl rfl
theorem argS_append (pre post : List AV) (x : AV) (i : Nat) : argS (pre ++ x :: post) i = if i = pre.length then x else argS (pre ++ .dead :: post) i := by
 unfold argS
 by_cases hi : i = pre.length
 ·subst hi
  rw [if_pos rfl, List.getElem?_append_right (Nat.le_refl _), Nat.sub_self]
  rfl
 ·rw [if_neg hi]
  by_cases hlt : i < pre.length
  ·rw [List.getElem?_append_left hlt, List.getElem?_append_left hlt]
  ·rw [List.getElem?_append_right (by omega), List.getElem?_append_right (by omega)]
   obtain ⟨j, hj⟩ : ∃ j, i - pre.length = j + 1 := ⟨i - pre.length - 1, by omega⟩
   rw [hj, List.getElem?_cons_succ, List.getElem?_cons_succ]
theorem own_false {P : Program} {w : World} {lim : Nat → Nat} {e : TypeId} {xs : List (List AV)} {v : Value} (h : OwnR P w lim true e xs v none) : OwnR P w lim false e xs v none := by
 rcases h with ⟨us, h1, h2, h3, h4, h5, h6⟩ | h
 ·exact .inl ⟨us, h1, h2, fun b hb => (by cases hb), h4, h5, h6⟩
 ·exact .inr h
theorem CallOk.freeze1 {P : Program} {f : FuncId} {pre post : List AV} {e : TypeId} {xs : List (List AV)} {res : AV} {outs : List AV} (h : CallOk P f (pre ++ .own false e xs :: post) res outs)
  (hn : ∀ x ∈ pre ++ post, ∀ d k, ¬ refsP x d k) : CallOk P f (pre ++ .own true e xs :: post) res outs := by
 refine ⟨h.1, fun w lim X cargs hcl hrel hdist hsize => ?_⟩
 have hat : ∀ (b : Bool) (i : Nat), argS (pre ++ .own b e xs :: post) i = if i = pre.length then .own b e xs else argS (pre ++ .dead :: post) i := fun b i => argS_append pre post _ i
 have hnr : ∀ i d k, i ≠ pre.length → ¬ refsP (argS (pre ++ .dead :: post) i) d k := by
  intro i d k hi hr
  have hx : argS (pre ++ .dead :: post) i = .dead ∨ argS (pre ++ .dead :: post) i ∈ pre ++ post := by
   unfold argS
   cases hx : (pre ++ AV.dead :: post)[i]? with
   | none => exact .inl rfl
   | some x =>
    have hm := List.mem_of_getElem? hx
    rw [List.mem_append, List.mem_cons] at hm
    rcases hm with hm | rfl | hm
    ·exact .inr (List.mem_append_left _ hm)
    ·exact .inl rfl
    ·exact .inr (List.mem_append_right _ hm)
  rcases hx with hx | hx
  ·rw [hx] at hr
   rcases hr with hr | ⟨_, hr⟩ <;> cases hr
  ·exact hn _ hx d k hr
 have h0 := hrel pre.length
 rw [hat, if_pos rfl] at h0
 have h0' : OwnR P w lim true e xs (cargs.getD pre.length undef) (X pre.length 0) := h0
 obtain ⟨lim1, he, hk, hown⟩ : ∃ lim1, Ext w lim w lim1 ∧ (∀ b, X pre.length 0 ≠ some b → lim1 b = lim b) ∧ OwnR P w lim1 false e xs (cargs.getD pre.length undef) (X pre.length 0) := by
  cases hb : X pre.length 0 with
  | none => rw [hb] at h0'; exact ⟨lim, Ext.refl _ _, fun _ _ => rfl, own_false h0'⟩
  | some b0 =>
   rw [hb] at h0'
   have hl0 : lim b0 = 0 := by
    rcases h0' with ⟨us, _, _, h3, _⟩ | ⟨_, h, _⟩
    ·rw [h3 b0 rfl]; rfl
    ·cases h
   have hext : Ext w lim w (raiseL lim b0 (xs.length * P.cellsOf e)) := fun b _ => by
    refine ⟨?_, fun o u _ hu => hu⟩
    unfold raiseL
    split
    ·rename_i h; rw [h, hl0]; exact Nat.zero_le _
    ·exact Nat.le_refl _
   exact ⟨_, hext, fun b hne => if_neg fun e => hne (by rw [e]), own_raise h0' hext⟩
 have hrel1 : ∀ i, SlotR P w lim1 X (argS (pre ++ .own false e xs :: post)) i (argS (pre ++ .own false e xs :: post) i) (cargs.getD i undef) := by
  intro i
  by_cases hi : i = pre.length
  ·subst hi
   rw [hat, if_pos rfl]
   exact hown
  ·have h1 := hrel i
   have hne : argS (pre ++ .own false e xs :: post) i = argS (pre ++ .own true e xs :: post) i := by rw [hat, hat, if_neg hi, if_neg hi]
   rw [hne]
   refine SlotR.chg (h1.mono he (fun k b hb => ⟨rfl, hk b fun e => hi (hdist i k pre.length 0 b hb e).1⟩) fun d' k b hr _ => ?_) rfl (fun d' cs hd => ⟨⟨cs, ?_⟩, rfl⟩) (fun d' hg => ⟨?_, rfl⟩) fun d' k hr => ?_
   ·rw [hat, if_neg hi] at hr
    exact (hnr i d' k hi (.inl hr)).elim
   ·rw [hat] at hd ⊢
    split at hd
    ·cases hd
    ·rename_i hd'
     rw [if_neg hd']; exact hd
   ·rw [hat] at hg ⊢
    split at hg
    ·cases hg
    ·rename_i hd'
     rw [if_neg hd']; exact hg
   ·rw [hat, if_neg hi] at hr
    exact (hnr i d' k hi hr).elim
 have hcnt : (pre ++ AV.own true e xs :: post).countP AV.isG = (pre ++ AV.own false e xs :: post).countP AV.isG := by
  simp [List.countP_append, List.countP_cons, AV.isG]
 have hll : (pre ++ AV.own true e xs :: post).length = (pre ++ AV.own false e xs :: post).length := by simp
 refine (h.2 w lim1 X cargs (by rw [← hcnt, ← hll]; exact hcl) hrel1 hdist hsize).mono ?_
 rintro e' w' ⟨v, lim', X', he', hst, hol, hr, hd, hin, hgh⟩
 refine ⟨v, lim', X', he', ⟨hst.os, hst.tape, hst.output, hst.size, hst.frz, fun b hb hn' => ?_, he.trans hst.ext (Nat.le_refl _)⟩, by rw [hol, hll], fun i => by rw [hll]; exact hr i, hd, hin, fun i hi => ?_⟩
 ·obtain ⟨k1, k2⟩ := hst.blk b hb hn'
  exact ⟨k1, k2.trans (hk b fun e => hn' ⟨_, _, e⟩)⟩
 ·obtain ⟨m1, m2⟩ := hgh i hi
  refine ⟨?_, m2⟩
  rw [hat] at m1 ⊢
  split at m1
  ·cases m1
  ·rename_i hi'
   rw [if_neg hi']; exact m1
theorem frzAs_refs {d k : Nat} : ∀ (as : List AP) (xs : List AV), (∀ x ∈ frzAs as xs, ¬ refsP x d k) → ∀ x ∈ xs, ¬ refsP x d k
 | [], xs, h => fun x hx => h x (by cases xs <;> exact hx)
 | _ :: _, [], _ => fun _ hx => by cases hx
 | a :: as, y :: ys, h => fun x hx => by
  rcases List.mem_cons.1 hx with rfl | hx
  ·rcases frzAV_cases a x with e | ⟨_, _, rfl, _⟩
   ·have := h (frzAV a x) (List.mem_cons_self ..)
    rwa [e] at this
   ·rintro (h | ⟨_, h⟩) <;> cases h
  ·exact frzAs_refs as ys (fun z hz => h z (List.mem_cons_of_mem _ hz)) x hx
theorem CallOk.freeze {P : Program} {f : FuncId} {res : AV} {outs : List AV} : ∀ (as : List AP) (xs pre : List AV), CallOk P f (pre ++ frzAs as xs) res outs → (∀ x ∈ pre ++ frzAs as xs, ∀ d k, ¬ refsP x d k) → CallOk P f (pre ++ xs) res outs
 | [], xs, pre, h, _ => by cases xs <;> exact h
 | _ :: _, [], pre, h, _ => h
 | a :: as, x :: xs, pre, h, hn => by
  have h1 := CallOk.freeze as xs (pre ++ [frzAV a x]) (by simpa [frzAs] using h) (by simpa [frzAs] using hn)
  rw [List.append_assoc, List.singleton_append] at h1
  rcases frzAV_cases a x with e | ⟨e, ys, rfl, e'⟩
  ·rwa [e] at h1
  ·rw [e'] at h1
   refine h1.freeze1 fun y hy d k => ?_
   rcases List.mem_append.1 hy with hy | hy
   ·exact hn y (List.mem_append_left _ hy) d k
   ·exact frzAs_refs as xs (fun z hz => hn z (List.mem_append_right _ (List.mem_cons_of_mem _ hz)) d k) y hy
theorem decA_refs {P : Program} {a : AP} {x : AV} {vs : List V} (h : decA P a x = some vs) (d k : Nat) : ¬ refsP x d k := by
 rintro (rfl | ⟨_, rfl⟩) <;> cases a <;> simp [decA, decC] at h
 all_goals (rename_i s; cases s <;> simp [decC] at h)
theorem decAs_refs {P : Program} : ∀ (as : List AP) (xs : List AV) (vs : List V), decAs P as xs = some vs → ∀ x ∈ xs, ∀ d k, ¬ refsP x d k
 | _, [], _, _ => fun _ hx => by cases hx
 | [], _ :: _, _, h => by simp [decAs] at h
 | a :: as, x :: xs, ws, h => by
  simp only [decAs] at h
  split at h
  ·rename_i vs us hv hus
   intro y hy d k
   rcases List.mem_cons.1 hy with rfl | hy
   ·exact decA_refs hv d k
   ·exact decAs_refs as xs us hus y hy d k
  ·cases h
def callK {γ : Type} (P : Program) (S : Fun) (as : List AV) (k : List V → Option γ) : Option γ :=
 match decAs P S.args (frzAs S.args as) with
 | some vs => (S.g vs).bind fun r => k (toVs _ r)
 | none => none
theorem callK_some {γ : Type} {S : Fun} {as : List AV} {k : List V → Option γ} {x : γ} {P : Program} (h : callK P S as k = some x) : ∃ vs r, decAs P S.args (frzAs S.args as) = some vs ∧ S.g vs = some r ∧ k (toVs _ r) = some x := by
 unfold callK at h
 split at h
 ·rename_i vs hvs
  rw [Option.bind_eq_some_iff] at h
  obtain ⟨r, h1, h2⟩ := h
  exact ⟨vs, r, hvs, h1, h2⟩
 ·cases h
def fitC (s : Sh) (x : SC) (m : Nat) : Bool :=
 match s, x with
 | .int k, .int k' (.var a) => decide (k' = k) && decide (a = m)
 | .bool, .bool (.var a) => decide (a = m)
 | .str, .str (.var a) => decide (a = m)
 | .slice s, .slice false s' (.var a) => decide (s' = s) && decide (a = m)
 | _, _ => false
def fitCs : List Sh → List SC → Nat → Bool
 | [], [], _ => true
 | s :: ss, c :: cs, m => fitC s c m && fitCs ss cs (m + 1)
 | _, _, _ => false
def fitT (r : RSh) (x : TC) (m : Nat) : Bool :=
 match r, x with
 | .c s, .c x => fitC s x m
 | .c (.own x e), .own x' e' (.var a) => (decide (e' = e) && decide (a = m)) && (x' == x)
 | .agg l, .agg cs => fitCs l cs m
 | _, _ => false
def fitTs : List RSh → List TC → Nat → Bool
 | [], [], _ => true
 | r :: rs, x :: xs, m => fitT r x m && fitTs rs xs (m + r.sh.length)
 | _, _, _ => false
def svTC : SV → Option TC
 | .c x => some (.c x)
 | .agg cs => some (.agg cs)
 | .own x e l => some (.own x e l)
 | _ => none
def fitR (rs : List RSh) (x : SV) (m : Nat) : Bool :=
 match rs with
 | [r] => match svTC x with | some y => fitT r y m | none => false
 | rs => match x with | .tuple vs => fitTs rs vs m | _ => false
def fitB (s : Sh) (x : BC) (m : Nat) : Bool :=
 match s, x with
 | s, .c x => fitC s x m
 | .own x e, .own x' e' (.var a) => (decide (e' = e) && decide (a = m)) && (x' == x)
 | _, _ => false
def fitBs : List Sh → List BC → Nat → Bool
 | [], [], _ => true
 | s :: ss, c :: cs, m => fitB s c m && fitBs ss cs (m + 1)
 | _, _, _ => false
def fitOs : List AP → List SV → Nat → Bool
 | [], [], _ => true
 | .box l :: r, .box cs :: xs, m => fitBs l cs m && fitOs r xs (m + l.length)
 | .gbox l :: r, .gbox cs :: xs, m => fitBs l cs m && fitOs r xs (m + l.length)
 | .c _ :: r, .dead :: xs, m => fitOs r xs m
 | .agg _ :: r, .dead :: xs, m => fitOs r xs m
 | .clo _ _ :: r, .dead :: xs, m => fitOs r xs m
 | .dead :: r, .dead :: xs, m => fitOs r xs m
 | _, _, _ => false
section
variable {ρ : Nat → V} {n : Nat} {us : List V}
theorem bind_at (j : Nat) (h : j < us.length) : bind ρ n us (n + j) = vAt us j := by
 unfold bind vAt
 rw [if_neg (by omega), show n + j - n = j by omega, List.getElem?_eq_getElem h]
 rfl
theorem fitC_den {s : Sh} {x : SC} {j : Nat} (h : fitC s x (n + j) = true) (hj : j < us.length) : x.den (bind ρ n us) = shDen s (vAt us j) := by
 unfold fitC at h
 split at h
 ·simp only [Bool.and_eq_true, decide_eq_true_eq] at h
  obtain ⟨rfl, rfl⟩ := h
  simp only [SC.den, IE.den, bind_at j hj, shDen]
 ·simp only [decide_eq_true_eq] at h
  subst h
  simp only [SC.den, BE.den, bind_at j hj, shDen]
 ·simp only [decide_eq_true_eq] at h
  subst h
  simp only [SC.den, SE.den, bind_at j hj, shDen]
 ·simp only [Bool.and_eq_true, decide_eq_true_eq] at h
  obtain ⟨rfl, rfl⟩ := h
  simp only [SC.den, LE.den, bind_at j hj, shDen]
 ·cases h
theorem fitCs_den : ∀ (l : List Sh) (cs : List SC) (j : Nat), fitCs l cs (n + j) = true → j + l.length ≤ us.length → cs.map (SC.den (bind ρ n us)) = shsDen l us j
 | [], [], _, _, _ => rfl
 | [], _ :: _, _, h, _ => by simp [fitCs] at h
 | _ :: _, [], _, h, _ => by simp [fitCs] at h
 | s :: ss, c :: cs, j, h, hl => by
  simp only [fitCs, Bool.and_eq_true] at h
  simp only [List.length_cons] at hl
  rw [List.map_cons, shsDen, fitC_den h.1 (by omega), fitCs_den ss cs (j + 1) (by rw [← Nat.add_assoc]; exact h.2) (by omega)]
theorem fitT_den {r : RSh} {x : TC} {j : Nat} (h : fitT r x (n + j) = true) (hj : j + r.sh.length ≤ us.length) : x.den (bind ρ n us) = compDen r us j := by
 unfold fitT at h
 split at h
 ·exact fitC_den h (by simp [RSh.sh] at hj; omega)
 ·simp only [Bool.and_eq_true, decide_eq_true_eq, beq_iff_eq] at h
  obtain ⟨⟨rfl, rfl⟩, rfl⟩ := h
  have hj' : j < us.length := by simp [RSh.sh] at hj; omega
  simp only [TC.den, LE.den, bind_at j hj', compDen, shDen]
 ·simp only [TC.den, compDen, fitCs_den _ _ j h hj]
 ·cases h
theorem fitTs_den : ∀ (rs : List RSh) (xs : List TC) (j : Nat), fitTs rs xs (n + j) = true → j + (rs.flatMap RSh.sh).length ≤ us.length → xs.map (TC.den (bind ρ n us)) = compsDen rs us j
 | [], [], _, _, _ => rfl
 | [], _ :: _, _, h, _ => by simp [fitTs] at h
 | _ :: _, [], _, h, _ => by simp [fitTs] at h
 | r :: rs, x :: xs, j, h, hl => by
  simp only [fitTs, Bool.and_eq_true] at h
  simp only [List.flatMap_cons, List.length_append] at hl
  rw [List.map_cons, compsDen, fitT_den h.1 (by omega), fitTs_den rs xs (j + r.sh.length) (by rw [← Nat.add_assoc]; exact h.2) (by omega)]
theorem svTC_den {x : SV} {y : TC} (h : svTC x = some y) (ρ : Nat → V) : x.den ρ = y.den ρ := by
 unfold svTC at h
 split at h <;> simp at h <;> subst h <;> rfl
theorem fitR_den {rs : List RSh} {x : SV} (h : fitR rs x n = true) (hl : resN rs ≤ us.length) : x.den (bind ρ n us) = resDen rs us 0 := by
 unfold fitR at h
 split at h
 ·split at h
  ·rename_i r y hy
   rw [svTC_den hy]
   exact fitT_den (j := 0) h (by simpa [resN] using hl)
  ·cases h
 ·rename_i hne
  split at h
  ·rename_i vs
   have : resDen rs us 0 = .tuple (compsDen rs us 0) := by
    unfold resDen
    split
    ·exact (hne _ rfl).elim
    ·rfl
   rw [this]
   simp only [SV.den, fitTs_den rs vs 0 h (by simpa [resN] using hl)]
  ·cases h
theorem fitB_den {s : Sh} {x : BC} {j : Nat} (h : fitB s x (n + j) = true) (hj : j < us.length) : x.den (bind ρ n us) = shDen s (vAt us j) := by
 unfold fitB at h
 split at h
 ·exact fitC_den h hj
 ·simp only [Bool.and_eq_true, decide_eq_true_eq, beq_iff_eq] at h
  obtain ⟨⟨rfl, rfl⟩, rfl⟩ := h
  simp only [BC.den, LE.den, bind_at j hj, shDen]
 ·cases h
theorem fitBs_den : ∀ (l : List Sh) (cs : List BC) (j : Nat), fitBs l cs (n + j) = true → j + l.length ≤ us.length → cs.map (BC.den (bind ρ n us)) = shsDen l us j
 | [], [], _, _, _ => rfl
 | [], _ :: _, _, h, _ => by simp [fitBs] at h
 | _ :: _, [], _, h, _ => by simp [fitBs] at h
 | s :: ss, c :: cs, j, h, hl => by
  simp only [fitBs, Bool.and_eq_true] at h
  simp only [List.length_cons] at hl
  rw [List.map_cons, shsDen, fitB_den h.1 (by omega), fitBs_den ss cs (j + 1) (by rw [← Nat.add_assoc]; exact h.2) (by omega)]
theorem fitOs_den : ∀ (aps : List AP) (xs : List SV) (j : Nat), fitOs aps xs (n + j) = true → j + (outShs aps).length ≤ us.length → xs.map (SV.den (bind ρ n us)) = outsDen aps us j
 | [], [], _, _, _ => rfl
 | [], _ :: _, _, h, _ => by simp [fitOs] at h
 | .box l :: r, x :: xs, j, h, hl => by
  cases x <;> simp [fitOs] at h
  rename_i cs
  simp only [outShs, List.length_append] at hl
  have h1 : cs.map (BC.den (bind ρ n us)) = shsDen l us j := fitBs_den l cs j h.1 (by omega)
  simp only [List.map_cons, outsDen, SV.den, h1, fitOs_den r xs (j + l.length) (by rw [← Nat.add_assoc]; exact h.2) (by omega)]
 | .gbox l :: r, x :: xs, j, h, hl => by
  cases x <;> simp [fitOs] at h
  rename_i cs
  simp only [outShs, List.length_append] at hl
  have h1 : cs.map (BC.den (bind ρ n us)) = shsDen l us j := fitBs_den l cs j h.1 (by omega)
  simp only [List.map_cons, outsDen, SV.den, h1, fitOs_den r xs (j + l.length) (by rw [← Nat.add_assoc]; exact h.2) (by omega)]
 | .c _ :: r, x :: xs, j, h, hl => by
  cases x <;> simp [fitOs] at h
  simp only [outShs] at hl
  simp only [List.map_cons, outsDen, SV.den, fitOs_den r xs j h hl]
 | .agg _ :: r, x :: xs, j, h, hl => by
  cases x <;> simp [fitOs] at h
  simp only [outShs] at hl
  simp only [List.map_cons, outsDen, SV.den, fitOs_den r xs j h hl]
 | .clo _ _ :: r, x :: xs, j, h, hl => by
  cases x <;> simp [fitOs] at h
  simp only [outShs] at hl
  simp only [List.map_cons, outsDen, SV.den, fitOs_den r xs j h hl]
 | .dead :: r, x :: xs, j, h, hl => by
  cases x <;> simp [fitOs] at h
  simp only [outShs] at hl
  simp only [List.map_cons, outsDen, SV.den, fitOs_den r xs j h hl]
 | a :: _, [], _, h, _ => by cases a <;> simp [fitOs] at h
end
theorem toVs_len : ∀ (l : List Sh) (x : ShsT l), (toVs l x).length = l.length
 | [], _ => rfl
 | [_], _ => rfl
 | _ :: t :: r, x => by simp [toVs, toVs_len (t :: r) x.2]
def retT (P : Program) (r : RSh) (x : TC) : Option (List VE) :=
 match r, x with
 | .c s, .c x => (retC s x).map fun v => [v]
 | .c s, .own x e l => (retOwn P s x e l).map fun v => [v]
 | .agg l, .agg cs => if l.all Sh.imm = true then retCs l cs else none
 | _, _ => none
def retTs (P : Program) : List RSh → List TC → Option (List VE)
 | [], [] => some []
 | r :: rs, x :: xs => match retT P r x, retTs P rs xs with | some v, some vs => some (v ++ vs) | _, _ => none
 | _, _ => none
def retR (P : Program) (rs : List RSh) (x : SV) : Option (List VE) :=
 match rs with
 | [r] => match svTC x with | some y => retT P r y | none => none
 | rs => match x with | .tuple vs => retTs P rs vs | _ => none
def retOs (P : Program) : List AP → List SV → Option (List VE)
 | [], [] => some []
 | .box l :: r, .box cs :: xs => match retBs P l cs, retOs P r xs with | some v, some vs => some (v ++ vs) | _, _ => none
 | .gbox l :: r, .gbox cs :: xs => match retBs P l cs, retOs P r xs with | some v, some vs => some (v ++ vs) | _, _ => none
 | .c _ :: r, .dead :: xs => retOs P r xs
 | .agg _ :: r, .dead :: xs => retOs P r xs
 | .clo _ _ :: r, .dead :: xs => retOs P r xs
 | .dead :: r, .dead :: xs => retOs P r xs
 | _, _ => none
def retVals (P : Program) (aps : List AP) (rs : List RSh) (x : SV) (os : List SV) : Option (List VE) :=
 match retR P rs x, retOs P aps os with
 | some vs, some us => some (vs ++ us)
 | _, _ => none
section
variable {P : Program} {ρ : Nat → V}
theorem retT_ok {r : RSh} {x : TC} {vs : List VE} (h : retT P r x = some vs) : vs.length = r.sh.length ∧ ∀ pre post : List V, CompW P (x.den ρ) (compDen r (pre ++ vs.map (VE.den ρ) ++ post) pre.length) := by
 unfold retT at h
 split at h
 ·cases hd : retC _ _ with
  | none => rw [hd] at h; cases h
  | some v =>
   rw [hd] at h
   simp only [Option.map_some, Option.some.injEq] at h
   subst h
   refine ⟨rfl, fun pre post => ?_⟩
   simp only [compDen, List.map_cons, List.map_nil, List.append_assoc, List.cons_append, List.nil_append, vAt_mid]
   exact .cell (retC_ok hd)
 ·cases hd : retOwn P _ _ _ _ with
  | none => rw [hd] at h; cases h
  | some v =>
   rw [hd] at h
   simp only [Option.map_some, Option.some.injEq] at h
   subst h
   refine ⟨rfl, fun pre post => ?_⟩
   simp only [compDen, List.map_cons, List.map_nil, List.append_assoc, List.cons_append, List.nil_append, vAt_mid]
   exact .cell (retOwn_ok hd)
 ·split at h
  ·rename_i hi
   obtain ⟨h1, h2, h3⟩ := retCs_ok (P := P) (ρ := ρ) _ _ _ h
   exact ⟨h1, fun pre post => .agg (by rw [List.length_map, h2, shsDen_len]) (shsDen_cell _ _ _ hi) (h3 pre post)⟩
  ·cases h
 ·cases h
theorem compsDen_len : ∀ (rs : List RSh) (us : List V) (j : Nat), (compsDen rs us j).length = rs.length
 | [], _, _ => rfl
 | _ :: ss, us, j => by simp [compsDen, compsDen_len ss us]
theorem retTs_ok : ∀ (rs : List RSh) (xs : List TC) (vs : List VE), retTs P rs xs = some vs → vs.length = (rs.flatMap RSh.sh).length ∧ xs.length = rs.length ∧ ∀ pre post : List V,
  ∀ (i : Nat) (c c' : AV), (xs.map (TC.den ρ))[i]? = some c → (compsDen rs (pre ++ vs.map (VE.den ρ) ++ post) pre.length)[i]? = some c' → CompW P c c'
 | [], [], vs, h => by
  simp only [retTs, Option.some.injEq] at h
  subst h
  exact ⟨rfl, rfl, fun _ _ i c c' h => by simp at h⟩
 | [], _ :: _, _, h => by simp [retTs] at h
 | _ :: _, [], _, h => by simp [retTs] at h
 | r :: rs, x :: xs, us, h => by
  simp only [retTs] at h
  split at h
  ·rename_i v vs hv hvs
   simp only [Option.some.injEq] at h
   subst h
   obtain ⟨h1, h2⟩ := retT_ok (P := P) (ρ := ρ) hv
   obtain ⟨h3, h4, h5⟩ := retTs_ok rs xs vs hvs
   refine ⟨by simp [h1, h3], by simp [h4], fun pre post i c1 c2 hc1 hc2 => ?_⟩
   cases i with
   | zero =>
    simp only [compsDen, List.map_cons, List.getElem?_cons_zero, Option.some.injEq] at hc1 hc2
    subst hc1
    subst hc2
    have := h2 pre (vs.map (VE.den ρ) ++ post)
    simpa [List.append_assoc] using this
   | succ i =>
    have := h5 (pre ++ v.map (VE.den ρ)) post i c1 c2 (by simpa using hc1)
    rw [List.length_append, List.length_map, h1] at this
    simp only [compsDen, List.getElem?_cons_succ] at hc2
    refine this ?_
    simpa [List.append_assoc] using hc2
  ·cases h
theorem retR_ok {rs : List RSh} {x : SV} {vs : List VE} (h : retR P rs x = some vs) : vs.length = resN rs ∧ ∀ post : List V, SlotW P (x.den ρ) (resDen rs (vs.map (VE.den ρ) ++ post) 0) := by
 unfold retR at h
 split at h
 ·split at h
  ·rename_i r y hy
   obtain ⟨h1, h2⟩ := retT_ok (P := P) (ρ := ρ) h
   refine ⟨by simpa [resN] using h1, fun post => ?_⟩
   rw [svTC_den hy]
   have := h2 [] post
   exact .comp (by simpa [resDen] using this)
  ·cases h
 ·rename_i hne
  split at h
  ·rename_i ys
   obtain ⟨h1, h2, h3⟩ := retTs_ok (P := P) (ρ := ρ) _ _ _ h
   refine ⟨h1, fun post => ?_⟩
   have : ∀ us, resDen rs us 0 = .tuple (compsDen rs us 0) := by
    intro us
    unfold resDen
    split
    ·exact (hne _ rfl).elim
    ·rfl
   rw [this]
   refine .tuple (by rw [List.length_map, h2, compsDen_len]) fun i c c' hc hc' => h3 [] post i c c' hc ?_
   simpa using hc'
  ·cases h
theorem outsDen_len : ∀ (aps : List AP) (us : List V) (j : Nat), (outsDen aps us j).length = aps.length
 | [], _, _ => rfl
 | a :: r, us, j => by cases a <;> simp [outsDen, outsDen_len r us]
theorem retOs_ok : ∀ (aps : List AP) (xs : List SV) (vs : List VE), retOs P aps xs = some vs → vs.length = (outShs aps).length ∧ xs.length = aps.length ∧ ∀ pre post : List V,
  ∀ (i : Nat) (c c' : AV), (xs.map (SV.den ρ))[i]? = some c → (outsDen aps (pre ++ vs.map (VE.den ρ) ++ post) pre.length)[i]? = some c' → SlotW P c c'
 | [], [], vs, h => by
  simp only [retOs, Option.some.injEq] at h
  subst h
  exact ⟨rfl, rfl, fun _ _ i c c' h => by simp at h⟩
 | [], _ :: _, _, h => by simp [retOs] at h
 | a :: _, [], _, h => by cases a <;> simp [retOs] at h
 | .box l :: r, x :: xs, us, h => by
  cases x <;> simp only [retOs, reduceCtorEq] at h
  split at h
  ·rename_i cs v vs hv hvs
   simp only [Option.some.injEq] at h
   subst h
   obtain ⟨h1, h2, h3⟩ := retBs_ok (P := P) (ρ := ρ) _ _ _ hv
   obtain ⟨h4, h5, h6⟩ := retOs_ok r xs vs hvs
   refine ⟨by simp [h1, h4, outShs], by simp [h5], fun pre post i c1 c2 hc1 hc2 => ?_⟩
   cases i with
   | zero =>
    simp only [outsDen, List.map_cons, List.getElem?_cons_zero, Option.some.injEq, SV.den] at hc1 hc2
    subst hc1
    subst hc2
    have := h3 pre (vs.map (VE.den ρ) ++ post)
    exact .box (by rw [List.length_map, h2, shsDen_len]) (by simpa [List.append_assoc] using this)
   | succ i =>
    have := h6 (pre ++ v.map (VE.den ρ)) post i c1 c2 (by simpa using hc1)
    rw [List.length_append, List.length_map, h1] at this
    simp only [outsDen, List.getElem?_cons_succ] at hc2
    refine this ?_
    simpa [List.append_assoc] using hc2
  ·cases h
 | .gbox l :: r, x :: xs, us, h => by
  cases x <;> simp only [retOs, reduceCtorEq] at h
  split at h
  ·rename_i cs v vs hv hvs
   simp only [Option.some.injEq] at h
   subst h
   obtain ⟨h1, h2, h3⟩ := retBs_ok (P := P) (ρ := ρ) _ _ _ hv
   obtain ⟨h4, h5, h6⟩ := retOs_ok r xs vs hvs
   refine ⟨by simp [h1, h4, outShs], by simp [h5], fun pre post i c1 c2 hc1 hc2 => ?_⟩
   cases i with
   | zero =>
    simp only [outsDen, List.map_cons, List.getElem?_cons_zero, Option.some.injEq, SV.den] at hc1 hc2
    subst hc1
    subst hc2
    have := h3 pre (vs.map (VE.den ρ) ++ post)
    exact .gbox (by rw [List.length_map, h2, shsDen_len]) (by simpa [List.append_assoc] using this)
   | succ i =>
    have := h6 (pre ++ v.map (VE.den ρ)) post i c1 c2 (by simpa using hc1)
    rw [List.length_append, List.length_map, h1] at this
    simp only [outsDen, List.getElem?_cons_succ] at hc2
    refine this ?_
    simpa [List.append_assoc] using hc2
  ·cases h
 | .c s :: r, x :: xs, us, h => by
  cases x <;> simp only [retOs, reduceCtorEq] at h
  exact retOs_dead (a := .c s) r xs us (retOs_ok r xs us h) (fun _ _ => rfl) rfl
 | .agg l :: r, x :: xs, us, h => by
  cases x <;> simp only [retOs, reduceCtorEq] at h
  exact retOs_dead (a := .agg l) r xs us (retOs_ok r xs us h) (fun _ _ => rfl) rfl
 | .clo g ds :: r, x :: xs, us, h => by
  cases x <;> simp only [retOs, reduceCtorEq] at h
  exact retOs_dead (a := .clo g ds) r xs us (retOs_ok r xs us h) (fun _ _ => rfl) rfl
 | .dead :: r, x :: xs, us, h => by
  cases x <;> simp only [retOs, reduceCtorEq] at h
  exact retOs_dead (a := .dead) r xs us (retOs_ok r xs us h) (fun _ _ => rfl) rfl
where
 retOs_dead {a : AP} (r : List AP) (xs : List SV) (us : List VE) (h : us.length = (outShs r).length ∧ xs.length = r.length ∧ ∀ pre post : List V,
   ∀ (i : Nat) (c c' : AV), (xs.map (SV.den ρ))[i]? = some c → (outsDen r (pre ++ us.map (VE.den ρ) ++ post) pre.length)[i]? = some c' → SlotW P c c')
   (ha : ∀ vs j, outsDen (a :: r) vs j = .dead :: outsDen r vs j) (hs : outShs (a :: r) = outShs r) : us.length = (outShs (a :: r)).length ∧ (SV.dead :: xs).length = (a :: r).length ∧ ∀ pre post : List V,
   ∀ (i : Nat) (c c' : AV), ((SV.dead :: xs).map (SV.den ρ))[i]? = some c → (outsDen (a :: r) (pre ++ us.map (VE.den ρ) ++ post) pre.length)[i]? = some c' → SlotW P c c' := by
  obtain ⟨h4, h5, h6⟩ := h
  refine ⟨by rw [hs]; exact h4, by simp [h5], fun pre post i c1 c2 hc1 hc2 => ?_⟩
  rw [ha] at hc2
  cases i with
  | zero =>
   simp only [List.map_cons, List.getElem?_cons_zero, Option.some.injEq] at hc1 hc2
   subst hc2
   exact .dead
  | succ i => exact h6 pre post i c1 c2 (by simpa using hc1) (by simpa using hc2)
theorem retVals_ok {aps : List AP} {rs : List RSh} {x : SV} {os : List SV} {vs : List VE} (h : retVals P aps rs x os = some vs) :
  SlotsW P (os.map (SV.den ρ) ++ [x.den ρ]) (outsDen aps (vs.map (VE.den ρ)) (resN rs) ++ [resDen rs (vs.map (VE.den ρ)) 0]) := by
 unfold retVals at h
 split at h
 ·rename_i a b ha hb
  simp only [Option.some.injEq] at h
  subst h
  obtain ⟨h1, h2⟩ := retR_ok (ρ := ρ) ha
  obtain ⟨h3, h4, h5⟩ := retOs_ok (P := P) (ρ := ρ) _ _ _ hb
  have hlo : (os.map (SV.den ρ)).length = (outsDen aps ((a ++ b).map (VE.den ρ)) (resN rs)).length := by rw [List.length_map, h4, outsDen_len]
  refine ⟨by simp only [List.length_append, hlo, List.length_cons, List.length_nil], fun i c c' hc hc' => ?_⟩
  by_cases hi : i < (os.map (SV.den ρ)).length
  ·rw [List.getElem?_append_left hi] at hc
   rw [List.getElem?_append_left (by rw [← hlo]; exact hi)] at hc'
   have := h5 (a.map (VE.den ρ)) [] i c c' hc
   rw [List.length_map, h1] at this
   exact .inl (this (by simpa using hc'))
  ·rw [List.getElem?_append_right (by omega)] at hc
   rw [List.getElem?_append_right (by rw [← hlo]; omega), ← hlo] at hc'
   have h0 : i - (os.map (SV.den ρ)).length = 0 := by
    have := (List.getElem?_eq_some_iff.1 hc).1
    simp only [List.length_cons, List.length_nil] at this
    omega
   rw [h0] at hc hc'
   simp only [List.getElem?_cons_zero, Option.some.injEq] at hc hc'
   subst hc
   subst hc'
   rw [List.map_append]
   exact .inl (h2 _)
 ·cases h
end
def updR {γ : Type} (A : Nat → List V → Option γ) (n : Nat) (B : List V → Option γ) : Nat → List V → Option γ := fun i vs => if i = n then B vs else A i vs
noncomputable def STree.run (P : Program) (Φ : List (FuncId × Fun)) (aps : List AP) (rs : List RSh) : STree → (Nat → List V → Option (ShsT (shsOf rs aps))) → (Nat → V) → Option (ShsT (shsOf rs aps))
 | .stuck _, _, _ => none
 | .branch b t e, A, ρ => if b.den ρ = true then t.run P Φ aps rs A ρ else e.run P Φ aps rs A ρ
 | .req p t, A, ρ => @reqK _ (p.den ρ) (p.decDen ρ) (t.run P Φ aps rs A ρ)
 | .elem l i sh n t, A, ρ => elemK (l.den ρ) (i.den ρ) sh fun r => t.run P Φ aps rs A (bind ρ n (toVs sh r))
 | .nilq l n t, A, ρ => @nilK _ (decS _) (l.den ρ) fun b => t.run P Φ aps rs A (bind ρ n [.b b])
 | .call f args res outs n _ t, A, ρ =>
  match lookF Φ f (args.filterMap SV.sig) with
  | some S => if fitR S.res res n = true ∧ fitOs S.args outs (n + resN S.res) = true ∧ apsClosed S.args = true then callK P S (args.map (SV.den ρ)) fun us => t.run P Φ aps rs A (bind ρ n us) else none
  | none => none
 | .loop lv init n t, A, ρ => iterL (fun rec vs => t.run P Φ aps rs (updR A lv rec) (bind zeroE n vs)) FUEL (init.map (VE.den ρ))
 | .again lv vals, A, ρ => A lv (vals.map (VE.den ρ))
 | .ret res outs, _, ρ => match retVals P aps rs res outs with | some vs => ofVs _ (vs.map (VE.den ρ)) | none => none
theorem least {p : Nat → Prop} (h : ∃ k, p k) : ∃ k, p k ∧ ∀ j, j < k → ¬ p j := by
 obtain ⟨k, hk⟩ := h
 induction k using Nat.strongRecOn with
 | _ k ih =>
  by_cases hj : ∃ j, j < k ∧ p j
  ·obtain ⟨j, h1, h2⟩ := hj
   exact ih j h1 h2
  ·exact ⟨k, hk, fun j h1 h2 => hj ⟨j, h1, h2⟩⟩
section
variable {P : Program} {Φ : List (FuncId × Fun)} {aps : List AP} {rs : List RSh}
theorem run_wp (hΦ : OkAll P Φ) {r : ShsT (shsOf rs aps)} {R : AV → List AV → Prop} (hR : ∀ x os, SlotsW P (os ++ [x]) (outsDen aps (toVs _ r) (resN rs) ++ [resDen rs (toVs _ r) 0]) → R x os) :
  ∀ (t : STree) (A' : Nat → List V → Option (ShsT (shsOf rs aps))) (A : Nat → List V → Prop) (ρ : Nat → V), (∀ lv vs, A' lv vs = some r → A lv vs) → t.run P Φ aps rs A' ρ = some r → t.wp P R A ρ
 | .stuck _, _, _, _, _, h => by simp [STree.run] at h
 | .branch b t e, A', A, ρ, hA, h => by
  simp only [STree.run] at h
  refine ⟨fun hb => ?_, fun hb => ?_⟩
  ·rw [if_pos hb] at h
   exact run_wp hΦ hR t A' A ρ hA h
  ·rw [if_neg (by rw [hb]; exact Bool.false_ne_true)] at h
   exact run_wp hΦ hR e A' A ρ hA h
 | .req p t, A', A, ρ, hA, h => by
  obtain ⟨h1, h2⟩ := reqK_some (show @reqK _ (p.den ρ) (p.decDen ρ) (t.run P Φ aps rs A' ρ) = some r from h)
  exact ⟨h1, run_wp hΦ hR t A' A ρ hA h2⟩
 | .elem l i sh n t, A', A, ρ, hA, h => by
  obtain ⟨h0, cs, x, h1, h2, h3⟩ := elemK_some (show elemK (l.den ρ) (i.den ρ) sh (fun r => t.run P Φ aps rs A' (bind ρ n (toVs sh r))) = some r from h)
  refine ⟨toVs sh x, h0, ?_, run_wp hΦ hR t A' A _ hA h3⟩
  rw [h1, ofEs_den sh cs x n _ h2 (Fill.bind ρ n _)]
 | .nilq l n t, A', A, ρ, hA, h => fun b hb => run_wp hΦ hR t A' A _ hA (nilK_some (show @nilK _ (decS _) (l.den ρ) (fun b => t.run P Φ aps rs A' (bind ρ n [.b b])) = some r from h) b hb)
 | .call f args res outs n sh t, A', A, ρ, hA, h => by
  simp only [STree.run] at h
  split at h
  ·rename_i S hS
   split at h
   ·rename_i hfit
    obtain ⟨vs, x, h1, h2, h3⟩ := callK_some h
    have hlen := toVs_len _ x
    have hl2 : (shsOf S.res S.args).length = resN S.res + (outShs S.args).length := by simp [shsOf, resN]
    refine ⟨toVs _ x, ?_, run_wp hΦ hR t A' A _ hA h3⟩
    rw [fitR_den hfit.1 (by omega), fitOs_den S.args outs (resN S.res) hfit.2.1 (by omega)]
    exact CallOk.freeze S.args _ [] ((lookF_ok hΦ hS vs x h2).stronger (decAs_slots hfit.2.2 h1)) (decAs_refs _ _ _ h1)
   ·cases h
  ·cases h
 | .loop lv init n t, A', A, ρ, hA, h => by
  let F := fun (rec : List V → Option (ShsT (shsOf rs aps))) vs => t.run P Φ aps rs (updR A' lv rec) (bind zeroE n vs)
  have hF : iterL F FUEL (init.map (VE.den ρ)) = some r := h
  have hm : ∀ vs, ∃ m : Nat, (∃ k, iterL F k vs = some r) → iterL F m vs = some r ∧ ∀ j, iterL F j vs = some r → m ≤ j := by
   intro vs
   by_cases hk : ∃ k, iterL F k vs = some r
   ·obtain ⟨m, h1, h2⟩ := least hk
    exact ⟨m, fun _ => ⟨h1, fun j hj => Nat.le_of_not_lt fun hlt => h2 j hlt hj⟩⟩
   ·exact ⟨0, fun h => (hk h).elim⟩
  obtain ⟨m, hm⟩ := Classical.axiomOfChoice hm
  refine ⟨fun vs => ∃ k, iterL F k vs = some r, m, ⟨FUEL, hF⟩, fun vs _ hk => ?_⟩
  obtain ⟨h1, h2⟩ := hm vs hk
  cases hmv : m vs with
  | zero => rw [hmv] at h1; cases h1
  | succ j =>
   rw [hmv] at h1
   refine run_wp hΦ hR t (updR A' lv (iterL F j)) _ _ (fun lv' vs' hv => ?_) h1
   unfold updR at hv
   unfold updA
   split at hv
   ·rename_i he
    rw [if_pos he]
    refine ⟨⟨j, hv⟩, ?_⟩
    have := (hm vs' ⟨j, hv⟩).2 j hv
    omega
   ·rename_i he
    rw [if_neg he]
    exact hA lv' vs' hv
 | .again lv vals, A', A, ρ, hA, h => hA lv _ h
 | .ret res outs, A', A, ρ, hA, h => by
  simp only [STree.run] at h
  split at h
  ·rename_i vs hvs
   refine hR _ _ ?_
   rw [ofVs_toVs _ _ _ h]
   exact retVals_ok hvs
  ·cases h
end
end Go.AM
end

section
namespace Go.AM
def TyR (P : Program) : Nat → TypeId → List AV → Prop
 | 0, _, _ => False
 | d + 1, T, cs =>
  match P.underlying T with
  | some (.int k) => ∃ z, cs = [.val (.int k z)] ∧ (Lit.int k z).wf = true
  | some .bool => ∃ b, cs = [.val (.bool b)]
  | some .string => ∃ s, cs = [.val (.string s)]
  | some (.slice e) => ∃ xs : List (List AV), cs = [.slice false (P.cellsOf e) xs] ∧ xs.length ≤ maxLen ∧ ∀ x ∈ xs, TyR P d e x
  | some (.struct fs) => ∃ parts : List (List AV), cs = parts.flatten ∧ parts.length = fs.size ∧ ∀ (i : Nat) (f : Field) (p : List AV), fs[i]? = some f → parts[i]? = some p → TyR P d f.type p
  | _ => False
def fineB (P : Program) : Nat → TypeId → Bool
 | 0, _ => false
 | d + 1, T =>
  match P.underlying T with
  | some (.int _) => true
  | some .bool => true
  | some .string => true
  | some (.slice e) => fineB P d e && decide (0 < P.cellsOf e)
  | some (.struct fs) => (fs.toList.all fun f => fineB P d f.type) && decide (P.cellsOf T = (fs.toList.map fun f => P.cellsOf f.type).sum) &&
    (fs.toList.zipIdx.all fun p => decide (p.1.offset = ((fs.toList.take p.2).map fun f => P.cellsOf f.type).sum))
  | _ => false
def rowLim (w : World) : Nat → Nat := fun b => match w.heap[b]? with | some (.cells c _ _) => c.size | _ => 0
theorem rowLim_lt {w : World} {b o : Nat} {u : Value} (h : w.cell? ⟨b, o, none⟩ = some u) : o < rowLim w b := by
 unfold World.cell? at h
 unfold rowLim
 split at h
 ·rename_i c t fr hc
  have h' : c[o]? = some u := by simpa using h
  have hc' : w.heap[b]? = some (.cells c t fr) := hc
  rw [hc']
  exact (Array.getElem?_eq_some_iff.1 h').1
 ·cases h
theorem RelL.flat {w : World} {lim : Nat → Nat} : ∀ (as : List (List AV)) (us : List (List Value)), as.length = us.length → (∀ (i : Nat) (a : List AV) (u : List Value), as[i]? = some a → us[i]? = some u → RelL w lim a u) → RelL w lim as.flatten us.flatten
 | [], [], _, _ => RelL.nil w lim
 | [], _ :: _, h, _ => by simp at h
 | _ :: _, [], h, _ => by simp at h
 | a :: as, u :: us, h, hr => by
  have h1 := hr 0 a u rfl rfl
  have h2 := RelL.flat as us (by simpa using h) fun i a' u' ha hu => hr (i + 1) a' u' (by simpa using ha) (by simpa using hu)
  refine ⟨by simp [h1.1, h2.1], fun c hc => ?_, fun i c v hc hv => ?_⟩
  ·rw [List.flatten_cons, List.mem_append] at hc
   rcases hc with hc | hc
   ·exact h1.2.1 c hc
   ·exact h2.2.1 c hc
  ·rw [List.flatten_cons] at hc hv
   by_cases hi : i < a.length
   ·rw [List.getElem?_append_left hi] at hc
    rw [List.getElem?_append_left (by rw [← h1.1]; exact hi)] at hv
    exact h1.2.2 i c v hc hv
   ·rw [List.getElem?_append_right (by omega)] at hc
    rw [List.getElem?_append_right (by rw [← h1.1]; omega), ← h1.1] at hv
    exact h2.2.2 _ c v hc hv
theorem pieces {α : Type} : ∀ (ns : List Nat) (cs : List α), cs.length = ns.sum → ∃ ps : List (List α), ps.length = ns.length ∧ ps.flatten = cs ∧ ∀ (i : Nat) (n : Nat), ns[i]? = some n → ps[i]? = some ((cs.drop (ns.take i).sum).take n)
 | [], cs, h => ⟨[], rfl, by simp at h; simp [h], by simp⟩
 | n :: ns, cs, h => by
  obtain ⟨ps, h1, h2, h3⟩ := pieces ns (cs.drop n) (by simp only [List.sum_cons] at h; simp; omega)
  refine ⟨cs.take n :: ps, by simp [h1], by rw [List.flatten_cons, h2, List.take_append_drop], fun i m hi => ?_⟩
  cases i with
  | zero => simp at hi; subst hi; simp
  | succ i =>
   have := h3 i m (by simpa using hi)
   simp only [List.getElem?_cons_succ, this, List.take_succ_cons, List.sum_cons, List.drop_drop]
theorem list_choice {β : Type} {Q : Nat → β → Prop} : ∀ (n : Nat), (∀ i, i < n → ∃ b, Q i b) → ∃ l : List β, l.length = n ∧ ∀ (i : Nat) (b : β), l[i]? = some b → Q i b
 | 0, _ => ⟨[], rfl, by simp⟩
 | n + 1, h => by
  obtain ⟨l, h1, h2⟩ := list_choice n fun i hi => h i (by omega)
  obtain ⟨b, hb⟩ := h n (by omega)
  refine ⟨l ++ [b], by simp [h1], fun i c hc => ?_⟩
  by_cases hi : i < l.length
  ·rw [List.getElem?_append_left hi] at hc
   exact h2 i c hc
  ·rw [List.getElem?_append_right (by omega)] at hc
   have h0 : i - l.length = 0 := by
    have := (List.getElem?_eq_some_iff.1 hc).1
    simp at this
    omega
   rw [h0] at hc
   simp only [List.getElem?_cons_zero, Option.some.injEq] at hc
   subst hc
   have : i = n := by omega
   rw [this]
   exact hb
theorem flat_cells {s : Nat} {cell : Nat → Option Value} : ∀ (l : List (List Value)) (o : Nat), (∀ (i : Nat) (us : List Value), l[i]? = some us → us.length = s ∧ ∀ (k : Nat) (u : Value), us[k]? = some u → cell (o + i * s + k) = some u) →
  ∀ (j : Nat) (u : Value), l.flatten[j]? = some u → cell (o + j) = some u
 | [], o, _, j, u, h => by simp at h
 | us :: l, o, h, j, u, hj => by
  obtain ⟨h1, h2⟩ := h 0 us rfl
  rw [List.flatten_cons] at hj
  by_cases hlt : j < us.length
  ·rw [List.getElem?_append_left hlt] at hj
   have := h2 j u hj
   simpa using this
  ·rw [List.getElem?_append_right (by omega)] at hj
   have := flat_cells l (o + s) (fun i us' hi => by
    obtain ⟨g1, g2⟩ := h (i + 1) us' (by simpa using hi)
    refine ⟨g1, fun k u' hk => ?_⟩
    have := g2 k u' hk
    rw [Nat.add_mul, Nat.one_mul] at this
    rw [show o + s + i * s + k = o + (i * s + s) + k by omega]
    exact this) (j - us.length) u hj
   rw [show o + s + (j - us.length) = o + j by omega] at this
   exact this
theorem post_stays {H : Type} {f : Func} {s : ChangeSpec} {apart fresh handsOn again : Bool} {W W' : World} {args : Array Value} {v : Value} {ds gs : List (DataW H)} {before pa : List MemPlace} {P : Program} {enc : TypeId × Value → H}
  (hW : DataW.Whole enc P f.params.toList s.vars apart W args.toList ds gs before)
  (hres : ∀ (b : Nat) (sp : Nat → Bool) (hd : Bool), DataW.TrodAll enc P W' b sp hd f.resultTypes.toList (v.resultList f.resultTypes.size) (s.fn H (ds ++ gs)).results [])
  (hargs : ∀ sp : Nat → Bool, (∀ p ∈ before, sp p.block = true) → DataW.TrodAll enc P W' 0 sp true f.params.toList args.toList (s.fn H (ds ++ gs)).args pa)
  (hvars : ∀ sp : Nat → Bool, (∀ p ∈ before, sp p.block = true) → DataW.TrodVars enc P W' sp s.vars (s.fn H (ds ++ gs)).vars [])
  (hps : before = pa ++ []) (hk : W.keptBut W' (· ∈ before)) (hfz : ∀ a : Addr, a.block < W.heap.size → W'.frozen? a = W.frozen? a)
  (hok : ∀ (j : Nat) (t : TypeId) (r : Value), f.resultTypes[j]? = some t → (v.resultList f.resultTypes.size)[j]? = some r → Value.okWide P W' .any 0 t r) :
  s.post enc P f apart fresh handsOn again W args v W' := by
 have hin : ∀ p ∈ before, p.block < W.heap.size := fun p hp => hW.lt p hp
 have hdec : ∀ p ∈ before, (fun b => decide (b < W.heap.size)) p.block = true := fun p hp => decide_eq_true (hin p hp)
 refine ⟨ds, gs, before, [], pa, [], hW, hres _ _ _, hargs _ hdec, hvars _ hdec, World.keptBut_mono (fun p hp => ⟨hp, ?_⟩) hk, fun _ => ?_⟩
 ·refine Or.inr (Or.inl ?_)
  rwa [hps, List.append_nil] at hp
 ·have hWp := hW
  obtain ⟨_, _, _, _, _, hz, hn⟩ := hWp
  refine ⟨hok, _, _, ([] ++ pa) ++ [], ⟨[] ++ pa, [], ChangeShapes.trodAll_append (hargs _ fun _ _ => rfl) (hres _ _ _), hvars _ fun _ _ => rfl, rfl, ?_, ?_⟩, ?_⟩
  ·intro b off hp
   have hmem : MemPlace.cell b off ∈ before := by rw [hps]; simpa using hp
   rw [hfz _ (hin _ hmem)]
   exact hz b off hmem
  ·intro ha
   have h1 := hn ha
   rw [hps] at h1
   simpa using h1
  ·intro p hp _
   rw [hps]
   simpa using hp
section
variable {P : Program} {H : Type} {enc : TypeId × Value → H} {w : World} {sp : Nat → Bool} {held : Bool}
theorem open_ty : ∀ (d n : Nat) (T : TypeId) (cs : List Value) (x : DataW H × List MemPlace), fineB P d T = true → DataW.trod enc P w 0 sp held n T cs = some x → ∃ avs, TyR P d T avs ∧ RelL w (rowLim w) avs cs
 | 0, n, T, cs, x, hf, _ => by simp [fineB] at hf
 | d + 1, n, T, cs, x, hf, h => by
  simp only [fineB] at hf
  split at hf
  ·rename_i k hk
   obtain ⟨z, rfl, _, hw⟩ := DataW.trod_int hk h
   refine ⟨[.val (.int k z)], ?_, rfl, by simp [AV.isCell], fun i c u hc hu => ?_⟩
   ·simp only [TyR, hk]; exact ⟨z, rfl, hw⟩
   ·cases i with
    | zero => simp at hc hu; subst hc; subst hu; exact .val rfl
    | succ i => simp at hc
  ·rename_i hk
   obtain ⟨b, rfl, _⟩ := DataW.trod_bool hk h
   refine ⟨[.val (.bool b)], ?_, rfl, by simp [AV.isCell], fun i c u hc hu => ?_⟩
   ·simp only [TyR, hk]; exact ⟨b, rfl⟩
   ·cases i with
    | zero => simp at hc hu; subst hc; subst hu; exact .val rfl
    | succ i => simp at hc
  ·rename_i hk
   obtain ⟨s, rfl, _⟩ := DataW.trod_string hk h
   refine ⟨[.val (.string s)], ?_, rfl, by simp [AV.isCell], fun i c u hc hu => ?_⟩
   ·simp only [TyR, hk]; exact ⟨s, rfl⟩
   ·cases i with
    | zero => simp at hc hu; subst hc; subst hu; exact .val rfl
    | succ i => simp at hc
  ·rename_i e hk
   simp only [Bool.and_eq_true, decide_eq_true_eq] at hf
   rcases DataW.trod_slice hk h with ⟨rfl, _⟩ | ⟨a, len, cap, elems, rest, m, _, rfl, _, _, hlc, hcm, hel, hcells, _, _⟩
   ·refine ⟨[.slice false (P.cellsOf e) []], ?_, rfl, by simp [AV.isCell], fun i c u hc hu => ?_⟩
    ·simp only [TyR, hk]; exact ⟨[], rfl, by simp, by simp⟩
    ·cases i with
     | zero => simp at hc hu; subst hc; subst hu; exact .sliceN
     | succ i => simp at hc
   ·obtain ⟨l, hl1, hl2⟩ := list_choice (Q := fun i (p : List Value × List AV) => w.cells? 0 (a.add (i * P.cellsOf e)) (P.cellsOf e) = some p.1 ∧ TyR P d e p.2 ∧ RelL w (rowLim w) p.2 p.1) len fun i hi => by
     have h1 := hcells i hi
     obtain ⟨y, hy⟩ : ∃ y, elems[i]? = some y := ⟨_, List.getElem?_eq_getElem (by omega)⟩
     rw [hy, Option.bind_eq_some_iff] at h1
     obtain ⟨us, h2, h3⟩ := h1
     obtain ⟨avs, h4, h5⟩ := open_ty d m e us y hf.1 h3
     exact ⟨(us, avs), h2, h4, h5⟩
    have hall : ∀ p ∈ l, TyR P d e p.2 ∧ RelL w (rowLim w) p.2 p.1 ∧ p.1.length = P.cellsOf e := by
     intro p hp
     obtain ⟨i, hi⟩ := List.mem_iff_getElem?.1 hp
     obtain ⟨g1, g2, g3⟩ := hl2 i p hi
     exact ⟨g2, g3, (World.cells?_some g1).2.1⟩
    refine ⟨[.slice false (P.cellsOf e) (l.map (·.2))], ?_, rfl, by simp [AV.isCell], fun i c u hc hu => ?_⟩
    ·simp only [TyR, hk]
     refine ⟨_, rfl, by simp; omega, fun y hy => ?_⟩
     obtain ⟨p, hp, rfl⟩ := List.mem_map.1 hy
     exact (hall p hp).1
    ·cases i with
     | succ i => simp at hc
     | zero =>
      simp only [List.getElem?_cons_zero, Option.some.injEq] at hc hu
      subst hc
      subst hu
      cases l with
      | nil =>
       have : len = 0 := by simpa using hl1.symm
       subst this
       exact .sliceE (fun h => by cases h)
      | cons p l' =>
       have hcell : ∀ (j : Nat) (u : Value), ((p :: l').map (·.1)).flatten[j]? = some u → w.cell? ⟨a.block, a.off + j, none⟩ = some u := by
        refine flat_cells (s := P.cellsOf e) (cell := fun o => w.cell? ⟨a.block, o, none⟩) _ a.off fun i us hi => ?_
        rw [List.getElem?_map] at hi
        cases hpi : (p :: l')[i]? with
        | none => simp [hpi] at hi
        | some q =>
         simp only [hpi, Option.map_some, Option.some.injEq] at hi
         subst hi
         obtain ⟨g1, _, _⟩ := hl2 i q hpi
         obtain ⟨_, k2, k3⟩ := World.cells?_some g1
         refine ⟨k2, fun k u hu => ?_⟩
         have hk' : k < P.cellsOf e := by rw [← k2]; exact (List.getElem?_eq_some_iff.1 hu).1
         have := k3 k hk'
         rw [hu] at this
         have hblk : ((a.add (i * P.cellsOf e)).add k).block = a.block ∧ ((a.add (i * P.cellsOf e)).add k).off = a.off + i * P.cellsOf e + k := by
          unfold Addr.add
          split <;> split <;> simp_all
         have hspot : ((a.add (i * P.cellsOf e)).add k).spot = none := by
          unfold World.cell? at this
          split at this
          ·split at this
           ·cases this
           ·rename_i hs; simpa using hs
          ·cases this
         have heq : (a.add (i * P.cellsOf e)).add k = ⟨a.block, a.off + i * P.cellsOf e + k, none⟩ := by
          rw [← hblk.1, ← hblk.2, ← hspot]
         rw [heq] at this
         exact this
       have hspot : a.spot = none := by
        obtain ⟨g1, _, _⟩ := hl2 0 p rfl
        obtain ⟨_, k2, k3⟩ := World.cells?_some g1
        have := k3 0 hf.2
        obtain ⟨u, hu⟩ : ∃ u, p.1[0]? = some u := ⟨_, List.getElem?_eq_getElem (by rw [k2]; exact hf.2)⟩
        rw [hu] at this
        have ha : (a.add (0 * P.cellsOf e)).add 0 = a := by simp [Addr.add]
        rw [ha] at this
        unfold World.cell? at this
        split at this
        ·split at this
         ·cases this
         ·rename_i hs; simpa using hs
        ·cases this
       have ha : a = ⟨a.block, a.off, none⟩ := by rw [← hspot]
       have hlen : ((p :: l').map (·.2)).length = len := by rw [List.length_map]; exact hl1
       rw [ha, ← hlen]
       have hrel : RelL w (rowLim w) ((p :: l').map (·.2)).flatten ((p :: l').map (·.1)).flatten := by
        refine RelL.flat _ _ (by simp) fun i x us hx hus => ?_
        rw [List.getElem?_map] at hx hus
        cases hpi : (p :: l')[i]? with
        | none => simp [hpi] at hx
        | some q =>
         simp only [hpi, Option.map_some, Option.some.injEq] at hx hus
         subst hx
         subst hus
         exact (hl2 i q hpi).2.2
       have hsz : ∀ x ∈ (p :: l').map (·.2), x.length = P.cellsOf e := by
        intro x hx
        obtain ⟨q, hq, rfl⟩ := List.mem_map.1 hx
        obtain ⟨_, g2, g3⟩ := hall q hq
        rw [g2.1, g3]
       refine .sliceC (us := ((p :: l').map (·.1)).flatten) hsz (fun x hx => ?_) (fun h => by cases h) (by rw [hlen]; exact hlc) (fun hne => ?_) ?_ hcell hrel.2.2
       ·obtain ⟨q, hq, rfl⟩ := List.mem_map.1 hx
        exact (hall q hq).2.1.2.1
       ·have hpos : 0 < (((p :: l').map (·.1)).flatten).length := List.length_pos_iff.2 hne
        have hlast := hcell ((((p :: l').map (·.1)).flatten).length - 1) _ (List.getElem?_eq_getElem (by omega))
        have := rowLim_lt hlast
        omega
       ·rw [← hrel.1, getD_replicate_flat _ _ hsz]
  ·rename_i fs hk
   simp only [Bool.and_eq_true, decide_eq_true_eq, List.all_eq_true] at hf
   obtain ⟨⟨h1, h2⟩, h3⟩ := hf
   obtain ⟨xs, m, _, _, hlen, hxl, hparts⟩ := DataW.trod_struct hk h
   obtain ⟨ps, q1, q2, q3⟩ := pieces (fs.toList.map fun f => P.cellsOf f.type) cs (by rw [hlen, h2])
   have hps : ps.length = fs.size := by rw [q1]; simp
   obtain ⟨l, hl1, hl2⟩ := list_choice (Q := fun i (avs : List AV) => ∃ (f : Field) (us : List Value), fs[i]? = some f ∧ ps[i]? = some us ∧ TyR P d f.type avs ∧ RelL w (rowLim w) avs us) fs.size fun i hi => by
    have hfi : fs[i]? = some fs[i] := Array.getElem?_eq_getElem hi
    have hn : (fs.toList.map fun f => P.cellsOf f.type)[i]? = some (P.cellsOf fs[i].type) := by simp [hi]
    have h4 := q3 i _ hn
    have h5 := hparts i _ hfi
    have hoff := h3 (fs[i], i) (by rw [List.mem_zipIdx_iff_getElem?]; simp [hi])
    simp only at hoff
    rw [hoff, List.map_take] at h5
    obtain ⟨y, hy⟩ : ∃ y, xs[i]? = some y := ⟨_, List.getElem?_eq_getElem (by omega)⟩
    rw [hy] at h5
    obtain ⟨avs, h6, h7⟩ := open_ty d m _ _ y (h1 fs[i] (by simp)) h5
    exact ⟨avs, fs[i], _, hfi, h4, h6, h7⟩
   refine ⟨l.flatten, ?_, ?_⟩
   ·simp only [TyR, hk]
    refine ⟨l, rfl, hl1, fun i f p hf hp => ?_⟩
    obtain ⟨f', us, g1, g2, g3, g4⟩ := hl2 i p hp
    rw [hf] at g1
    cases g1
    exact g3
   ·rw [← q2]
    refine RelL.flat _ _ (by rw [hl1, hps]) fun i avs us ha hu => ?_
    obtain ⟨f', us', g1, g2, g3, g4⟩ := hl2 i avs ha
    rw [hu] at g2
    cases g2
    exact g4
  ·cases hf
def ArgTy (P : Program) (d : Nat) (T : TypeId) (x : AV) : Prop :=
 match P.underlying T with
 | some (.struct _) => ∃ cs, x = .agg cs ∧ TyR P d T cs
 | _ => x.isCell = true ∧ TyR P d T [x]
theorem relL_one {lim : Nat → Nat} {avs : List AV} {v : Value} (h : RelL w lim avs [v]) : ∃ x, avs = [x] ∧ x.isCell = true ∧ Rep w lim x v := by
 obtain ⟨x, rfl⟩ := List.length_eq_one_iff.1 (by simpa using h.1 : avs.length = 1)
 exact ⟨x, rfl, h.2.1 x (by simp), h.2.2 0 x v rfl rfl⟩
theorem open_arg {d : Nat} {T : TypeId} {v : Value} {x : DataW H} {ps : List MemPlace} {r : Reach} {base : Nat} (hf : fineB P d T = true) (hok : Value.okWide P w r base T v)
  (h : DataW.Trod enc P w 0 sp held T v x ps) : ∃ y, ArgTy P d T y ∧ ∀ X σ k, SlotR P w (rowLim w) X σ k y v := by
 obtain ⟨n, h⟩ := h
 obtain ⟨avs, h1, h2⟩ := open_ty d n T _ _ hf h
 cases d with
 | zero => simp [fineB] at hf
 | succ d =>
  have one : v.cells.toList = [v] → (∀ fs, P.underlying T ≠ some (.struct fs)) → ∃ y, ArgTy P (d + 1) T y ∧ ∀ X σ k, SlotR P w (rowLim w) X σ k y v := by
   intro hv hns
   rw [hv] at h2
   obtain ⟨y, rfl, h3, h4⟩ := relL_one h2
   refine ⟨y, ?_, fun X σ k => (cell_slotR h3 h4).2⟩
   unfold ArgTy
   split
   ·rename_i fs hfs; exact (hns fs hfs).elim
   ·exact ⟨h3, h1⟩
  simp only [fineB] at hf
  split at hf
  ·rename_i kd hk
   obtain ⟨z, hz, _⟩ := DataW.trod_int hk h
   refine one ?_ (by rw [hk]; simp)
   simp only [Value.okWide, hk, Cell.okWide] at hok
   cases v <;> simp_all [Cell.ok, Value.cells]
  ·rename_i hk
   refine one ?_ (by rw [hk]; simp)
   simp only [Value.okWide, hk, Cell.okWide] at hok
   cases v <;> simp_all [Cell.ok, Value.cells]
  ·rename_i hk
   refine one ?_ (by rw [hk]; simp)
   simp only [Value.okWide, hk, Cell.okWide] at hok
   cases v <;> simp_all [Cell.ok, Value.cells]
  ·rename_i e hk
   refine one ?_ (by rw [hk]; simp)
   simp only [Value.okWide, hk, Cell.okWide] at hok
   cases v <;> simp_all [Cell.ok, Value.cells]
  ·rename_i fs hk
   simp only [Value.okWide, hk] at hok
   obtain ⟨cs, rfl, _, _⟩ := hok
   refine ⟨.agg avs, ?_, ?_⟩
   ·unfold ArgTy
    simp only [hk]
    exact ⟨avs, rfl, h1⟩
   ·have : cs = cs.toList.toArray := by simp
    intro X σ k
    show Rep w (rowLim w) (.agg avs) (.agg cs)
    rw [this]
    exact .agg h2.1 h2.2.1 h2.2.2
  ·cases hf
theorem open_args {d : Nat} {r : Reach} {base : Nat} : ∀ (ts : List TypeId) (vs : List Value) (ds : List (DataW H)) (ps : List MemPlace), (∀ t ∈ ts, fineB P d t = true) →
  (∀ (j : Nat) (t : TypeId) (v : Value), ts[j]? = some t → vs[j]? = some v → Value.okWide P w r base t v) → DataW.TrodAll enc P w 0 sp held ts vs ds ps →
  vs.length = ts.length ∧ ∃ xs : List AV, xs.length = ts.length ∧ ∀ (i : Nat) (t : TypeId) (x : AV) (v : Value), ts[i]? = some t → xs[i]? = some x → vs[i]? = some v → ArgTy P d t x ∧ ∀ X σ k, SlotR P w (rowLim w) X σ k x v
 | [], [], [], ps, _, _, _ => ⟨rfl, [], rfl, by simp⟩
 | t :: ts, v :: vs, x :: ds, ps, hf, hok, h => by
  obtain ⟨p, q, h1, h2, _⟩ := h
  obtain ⟨y, g1, g2⟩ := open_arg (hf t (by simp)) (hok 0 t v rfl rfl) h1
  obtain ⟨k1, xs, k2, k3⟩ := open_args ts vs ds q (fun t ht => hf t (by simp [ht])) (fun j t' v' ht hv => hok (j + 1) t' v' (by simpa using ht) (by simpa using hv)) h2
  refine ⟨by simp [k1], y :: xs, by simp [k2], fun i t' x' v' ht hx hv => ?_⟩
  cases i with
  | zero =>
   simp only [List.getElem?_cons_zero, Option.some.injEq] at ht hx hv
   subst ht
   subst hx
   subst hv
   exact ⟨g1, g2⟩
  | succ i => exact k3 i t' x' v' (by simpa using ht) (by simpa using hx) (by simpa using hv)
 | [], _ :: _, _, _, _, _, h => h.elim
 | [], [], _ :: _, _, _, _, h => h.elim
 | _ :: _, [], _, _, _, _, h => h.elim
 | _ :: _, _ :: _, [], _, _, _, h => h.elim
theorem args_stay {w' : World} {sp' : Nat → Bool} (hl : laidOutB P = true) : ∀ (ts : List TypeId) (vs : List Value) (ds : List (DataW H)) (ps : List MemPlace), (∀ t ∈ ts, t < P.types.size ∧ P.readableRec t = true) →
  DataW.TrodAll enc P w 0 (fun _ => true) true ts vs ds ps → (∀ p ∈ ps, w.sameAt w' p) → (∀ p ∈ ps, sp' p.block = true) → DataW.TrodAll enc P w' 0 sp' true ts vs ds ps
 | [], [], [], _, _, h, _, _ => h
 | t :: ts, v :: vs, x :: ds, ps, ht, h, hs, hp => by
  obtain ⟨p, q, ⟨n, h1⟩, h2, rfl⟩ := h
  refine ⟨p, q, ⟨n, ?_⟩, args_stay hl ts vs ds q (fun t' h' => ht t' (by simp [h'])) h2 (fun z hz => hs z (by simp [hz])) (fun z hz => hp z (by simp [hz])), rfl⟩
  have hr := (ht t (by simp)).2
  exact DataW.trod_stays (T := InBook P t) (kids_book hl hr) (fun {t' e} h' hu => book_sized hr h' hu) (fun h => by cases h) ⟨(ht t (by simp)).1, book_self t⟩ h1 (fun z hz => hs z (by simp [hz])) (fun z hz => hp z (by simp [hz]))
 | [], _ :: _, _, _, _, h, _, _ => h.elim
 | [], [], _ :: _, _, _, h, _, _ => h.elim
 | _ :: _, [], _, _, _, h, _, _ => h.elim
 | _ :: _, _ :: _, [], _, _, h, _, _ => h.elim
theorem contract_true {fn : Func} {f : FuncId} {s : ChangeSpec} {apart fresh handsOn again : Bool} {tb : TypeId} {d : Nat} (hl : laidOutB P = true) (hpar : ∀ t ∈ fn.params.toList, fineB P d t = true ∧ t < P.types.size ∧ P.readableRec t = true)
  (hres : fn.resultTypes = #[tb]) (htb : P.underlying tb = some .bool) (hvars : s.vars = []) (hs : ∀ ds, ds.length = fn.params.size → s.fn H ds = { results := [.lit (.bool true)], args := ds })
  (hcall : ∀ xs : List AV, xs.length = fn.params.toList.length → (∀ (i : Nat) (t : TypeId) (x : AV), fn.params.toList[i]? = some t → xs[i]? = some x → ArgTy P d t x) → ∃ outs, CallOk P f xs (B true) outs)
  (W : World) (base : Nat) (args : Array Value) (ds gs : List (DataW H)) (before : List MemPlace)
  (hval : ∀ (j : Nat) t v, fn.params[j]? = some t → args[j]? = some v → Value.okWide P W .any base t v) (hW : DataW.Whole enc P fn.params.toList s.vars apart W args.toList ds gs before) :
  Calls P f args W fun e W' => ∃ v, e = .returned v ∧ s.post enc P fn apart fresh handsOn again W args v W' := by
 have hW' := hW
 obtain ⟨p, q, hA, hV, rfl, _, _⟩ := hW
 rw [hvars] at hV
 obtain ⟨rfl, rfl⟩ := ChangeShapes.trodVars_none hV
 obtain ⟨hlen, xs, hx1, hx2⟩ := open_args (r := .any) (base := base) _ _ _ _ (fun t ht => (hpar t ht).1) (fun j t v ht hv => hval j t v (by simpa using ht) (by simpa using hv)) hA
 have hdl : ds.length = fn.params.size := by
  have : ∀ (ts : List TypeId) (vs : List Value) (ds : List (DataW H)) (ps : List MemPlace), DataW.TrodAll enc P W 0 (fun _ => true) true ts vs ds ps → ds.length = ts.length := by
   intro ts
   induction ts with
   | nil => intro vs ds ps h; cases vs <;> cases ds <;> simp_all [DataW.TrodAll]
   | cons t ts ih =>
    intro vs ds ps h
    cases vs with
    | nil => exact h.elim
    | cons v vs =>
     cases ds with
     | nil => exact h.elim
     | cons x ds => obtain ⟨_, _, _, h2, _⟩ := h; simp [ih _ _ _ h2]
  simpa using this _ _ _ _ hA
 obtain ⟨outs, _, hc⟩ := hcall xs hx1 fun i t x ht hx => by
  obtain ⟨v, hv⟩ : ∃ v, args.toList[i]? = some v := ⟨_, List.getElem?_eq_getElem (by rw [hlen]; exact (List.getElem?_eq_some_iff.1 ht).1)⟩
  exact (hx2 i t x v ht hx hv).1
 have hng : xs.countP AV.isG = 0 := by
  rw [List.countP_eq_zero]
  intro x hx hg
  obtain ⟨i, hi⟩ := List.mem_iff_getElem?.1 hx
  have hlt := (List.getElem?_eq_some_iff.1 hi).1
  obtain ⟨v, hv⟩ : ∃ v, args.toList[i]? = some v := ⟨_, List.getElem?_eq_getElem (by omega)⟩
  obtain ⟨t, ht⟩ : ∃ t, fn.params.toList[i]? = some t := ⟨_, List.getElem?_eq_getElem (by omega)⟩
  have hr := (hx2 i t x v ht hi hv).2 (fun _ _ => none) (fun _ => .dead) 0
  cases x <;> simp [AV.isG] at hg
  obtain ⟨v', b, _, _, h, _⟩ := hr
  cases h
 have hcalls := hc W (rowLim W) (fun _ _ => none) args.toList (by rw [hng, hlen, hx1]; exact Nat.le_refl _) (fun i => by
  cases hxi : xs[i]? with
  | none =>
   have : argS xs i = .dead := by simp [argS, hxi]
   rw [this]
   trivial
  | some x =>
   have hi := (List.getElem?_eq_some_iff.1 hxi).1
   obtain ⟨v, hv⟩ : ∃ v, args.toList[i]? = some v := ⟨_, List.getElem?_eq_getElem (by omega)⟩
   obtain ⟨t, ht⟩ : ∃ t, fn.params.toList[i]? = some t := ⟨_, List.getElem?_eq_getElem (by omega)⟩
   have h1 : argS xs i = x := by simp [argS, hxi]
   have h2 : args.toList.getD i undef = v := by rw [List.getD_eq_getElem?_getD, hv]; rfl
   rw [h1, h2]
   exact (hx2 i t x v ht hxi hv).2 _ _ _) (fun _ _ _ _ _ h => by cases h) (fun _ _ _ h => by cases h)
 rw [Array.toArray_toList] at hcalls
 refine hcalls.mono ?_
 rintro e W' ⟨v, lim', X', rfl, hst, hol, hrel, _, _, _⟩
 have hv : v = .bool true := by
  have h := hrel xs.length
  have h1 : argS (outs ++ [B true]) xs.length = B true := by
   simp only [argS]
   rw [List.getElem?_append_right (by omega), hol]
   simp
  have h2 : retAt xs.length args.toList v xs.length = v := if_pos rfl
  rw [h1, h2] at h
  exact rep_val h
 subst hv
 have hkept : ∀ b, b < W.heap.size → W'.heap[b]? = W.heap[b]? := fun b hb => (hst.blk b hb (by rintro ⟨_, _, h⟩; cases h)).1
 have hsame : ∀ z ∈ p ++ [], W.sameAt W' z := by
  intro z hz
  have hlt := hW'.lt z hz
  cases z with
  | cell b off =>
   show W'.cell? ⟨b, off, none⟩ = W.cell? ⟨b, off, none⟩
   unfold World.cell?
   rw [hkept b hlt]
  | map b => exact hkept b hlt
 refine ⟨_, rfl, post_stays (pa := p) hW' (fun b sp hd => ?_) (fun sp hp => ?_) (fun sp _ => ?_) rfl ?_ hst.frz ?_⟩
 ·rw [hs _ (by simpa using hdl), hres]
  exact ⟨[], [], ⟨1, by simp [DataW.trod, htb, Value.cells]⟩, rfl, rfl⟩
 ·rw [hs _ (by simpa using hdl), List.append_nil]
  exact args_stay hl _ _ _ _ (fun t ht => (hpar t ht).2) hA (fun z hz => hsame z (by simpa using hz)) (fun z hz => hp z (by simpa using hz))
 ·rw [hs _ (by simpa using hdl), hvars]
  rfl
 ·refine ⟨hst.os, hst.output, fun i hi => ?_⟩
  rw [hkept i hi]
  cases W.heap[i]? with
  | none => rfl
  | some o => cases o <;> simp
 ·exact RowKit.ok_one hres rfl (RowKit.okWide_bool_mk htb true)
end
end Go.AM
end

section
namespace Go.AM
open Go
set_option linter.unusedSimpArgs false
set_option linter.unusedVariables false
def blank : Char := Char.ofNat 32
theorem words_blank (r : List Char) : wordsSigns (blank :: r) = [] :: wordsSigns r := by
 show wordsSigns (Char.ofNat 32 :: r) = _
 rw [wordsSigns]
theorem words_other (c : Char) (r : List Char) (h : c ≠ blank) : wordsSigns (c :: r) = match wordsSigns r with | w :: ws => (c :: w) :: ws | [] => [[c]] := by
 rw [wordsSigns]
 ·rfl
 ·exact h
theorem words_word (r : List Char) : ∀ (w : List Char), (w.all fun c => c != blank) = true → wordsSigns (w ++ blank :: r) = w :: wordsSigns r
 | [], _ => words_blank r
 | c :: w, h => by
  rw [List.all_cons, Bool.and_eq_true] at h
  rw [List.cons_append, words_other c _ (by simpa using h.1), words_word r w h.2]
theorem behind_words {L : List Char} (h1 : ((L.take 7).all fun c => c != blank) = true) (h2 : (((L.drop 8).take 64).all fun c => c != blank) = true) (h3 : (((L.drop 73).take 3).all fun c => c != blank) = true)
  (hL : L = L.take 7 ++ blank :: ((L.drop 8).take 64 ++ blank :: ((L.drop 73).take 3 ++ blank :: L.drop 77))) (hm : ((L.take 7 == "harness".toList || L.take 7 == "ownmain".toList) && isSumSigns ((L.drop 8).take 64)) = true)
  (hc : (L.drop 73).take 3 = "cut".toList) : ∃ ws, behindMainWord (wordsSigns L) = "cut".toList :: ws := by
 refine ⟨wordsSigns (L.drop 77), ?_⟩
 have h : wordsSigns L = L.take 7 :: (L.drop 8).take 64 :: (L.drop 73).take 3 :: wordsSigns (L.drop 77) := by
  rw [hL, words_word _ _ h1, words_word _ _ h2, words_word _ _ h3, ← hL]
 rw [h, behindMainWord, if_pos hm, hc]
theorem enters_of {P : Program} {ws : List (List Char)} (h : behindMainWord (wordsSigns P.initOrder.toList) = "cut".toList :: ws) (h1 : P.laysLater = false) (h2 : P.bearsReflect = false) (h3 : P.doorFits [] = true) : P.mayEnter = true := by
 unfold Program.mayEnter
 rw [h]
 have hs : stripLifts liftWords ("cut".toList :: ws) = ([], "cut".toList :: ws) := by kernel_rfl
 simp only [hs]
 simp [h1, h2, h3]
theorem lifts_of {P : Program} {ws : List (List Char)} (h : behindMainWord (wordsSigns P.initOrder.toList) = "cut".toList :: ws) : P.headLifts = [] := by
 unfold Program.headLifts
 rw [h]
 have hs : stripLifts liftWords ("cut".toList :: ws) = ([], "cut".toList :: ws) := by kernel_rfl
 simp only [hs]
 simp
theorem final_of {P : Program} {ws : List (List Char)} (h : behindMainWord (wordsSigns P.initOrder.toList) = "cut".toList :: ws) : P.liftsFinal = false := by
 unfold Program.liftsFinal
 rw [lifts_of h, h]
 have hs : ("cut".toList == "carried".toList) = false := by decide +kernel
 simp [hs]
theorem make_of {P : Program} {ws : List (List Char)} (h : behindMainWord (wordsSigns P.initOrder.toList) = "cut".toList :: ws) : P.make = some .cut := by
 unfold Program.make
 rw [h]
 simp
end Go.AM
end

section
namespace Go.AM
abbrev LL : Type := List (List AV)
def bytesP (l : List (List AV)) : Prop := ∀ e ∈ l, ∃ n : Int, 0 ≤ n ∧ n ≤ 255 ∧ e = [.val (.int .u8 n)]
def roomP (a b : List (List AV)) (k : Nat) : Prop := (a.length + b.length) * (k + 1) ≤ roomMax
def makeP (a : Int) (k : Nat) : Prop := 0 ≤ a ∧ a.toNat * (k + 1) ≤ roomMax
instance (l : List (List AV)) : Decidable (bytesP l) := bytesDec l
instance (a b : List (List AV)) (k : Nat) : Decidable (roomP a b k) := inferInstanceAs (Decidable ((a.length + b.length) * (k + 1) ≤ roomMax))
instance (a : Int) (k : Nat) : Decidable (makeP a k) := inferInstanceAs (Decidable (0 ≤ a ∧ a.toNat * (k + 1) ≤ roomMax))
instance (l : List (List AV)) : Decidable (l ≠ []) := consDec l
theorem CQ : (∀ a b : Int, (cop .lss a b = true) = (a < b)) ∧ (∀ a b : Int, (cop .lss a b = false) = (b ≤ a)) ∧ (∀ a b : Int, (cop .leq a b = true) = (a ≤ b)) ∧ (∀ a b : Int, (cop .leq a b = false) = (b < a)) ∧
  (∀ a b : Int, (cop .gtr a b = true) = (b < a)) ∧ (∀ a b : Int, (cop .gtr a b = false) = (a ≤ b)) ∧ (∀ a b : Int, (cop .geq a b = true) = (b ≤ a)) ∧ (∀ a b : Int, (cop .geq a b = false) = (a < b)) ∧
  (∀ a b : Int, (cop .eql a b = true) = (a = b)) ∧ (∀ a b : Int, (cop .eql a b = false) = (a ≠ b)) ∧ (∀ a b : Int, (cop .neq a b = true) = (a ≠ b)) ∧ (∀ a b : Int, (cop .neq a b = false) = (a = b)) ∧
  (∀ b : Bool, (¬b = true) = (b = false)) ∧ (∀ b : Bool, (¬b = false) = (b = true)) ∧ (∀ b : Bool, ((!b) = true) = (b = false)) ∧ (∀ b : Bool, ((!b) = false) = (b = true)) ∧
  (∀ a b : Bool, ((a && b) = true) = (a = true ∧ b = true)) ∧ (∀ a b : Bool, ((a || b) = true) = (a = true ∨ b = true)) ∧ (∀ {p : Prop} [Decidable p], (decide p = true) = p) ∧ (∀ {p : Prop} {_ : Decidable p}, decide p = false ↔ ¬p) ∧
  ((false = true) = False) ∧ ((true = false) = False) ∧ (∀ {α β : Type} (a : α) (f : α → Option β), (some a).bind f = f a) ∧ (∀ {α : Type} (x y : α), (some x = some y) = (x = y)) ∧
  (∀ p : Prop, (False ↔ p) = ¬p) ∧ (∀ p : Prop, (True ↔ p) = p) ∧ (∀ p : Prop, (p ↔ False) = ¬p) ∧ (∀ p : Prop, (p ↔ True) = p) :=
 ⟨cop_lss_t, cop_lss_f, cop_leq_t, cop_leq_f, cop_gtr_t, cop_gtr_f, cop_geq_t, cop_geq_f, cop_eql_t, cop_eql_f, cop_neq_t, cop_neq_f, Bool.not_eq_true, Bool.not_eq_false, Bool.not_eq_true', Bool.not_eq_false', Bool.and_eq_true, Bool.or_eq_true,
  @decide_eq_true_eq, @decide_eq_false_iff_not, Bool.false_eq_true, Bool.true_eq_false, @Option.bind_some, @Option.some.injEq, false_iff, true_iff, iff_false, iff_true⟩
theorem ite_goal {α : Type} {c : Prop} [Decidable c] {a b x : α} (h1 : c → a = x) (h2 : ¬ c → b = x) : (if c then a else b) = x := by
 by_cases h : c
 ·rw [if_pos h]; exact h1 h
 ·rw [if_neg h]; exact h2 h
def STree.next : STree → STree
 | .branch _ t _ => t
 | .req _ t => t
 | .elem _ _ _ _ t => t
 | .nilq _ _ t => t
 | .call _ _ _ _ _ _ t => t
 | .loop _ _ _ t => t
 | t => t
def STree.other : STree → STree
 | .branch _ _ e => e
 | t => t
def STree.nexts : Nat → STree → STree
 | 0, t => t
 | k + 1, t => STree.nexts k t.next
def STree.go : STree → List Nat → STree
 | t, [] => t
 | t, 0 :: p => t.next.go p
 | t, 1 :: p => t.other.go p
 | t, k :: p => (STree.nexts k t).go p
@[reducible] def d2 {α β γ : Type} (r : α × β × γ) : γ := r.2.2
@[reducible] def d4 {α β γ δ ε : Type} (r : α × β × γ × δ × ε) : ε := r.2.2.2.2
@[reducible] def d8 {a b c d e f g h i : Type} (r : a × b × c × d × e × f × g × h × i) : i := d4 (d4 r)
@[reducible] def d16 {a b c d e f g h i j k l m n o p q : Type} (r : a × b × c × d × e × f × g × h × i × j × k × l × m × n × o × p × q) : q := d8 (d8 r)
def AP.hp : AP → HP
 | .c s => .c s
 | .agg l => .agg l
 | .box l => .box l
 | .gbox l => .gbox l
 | .clo g ds => .clo g ds
 | .dead => .dead
def argsAt : List AP → Nat → List SV
 | [], _ => []
 | a :: r, n => hpAt a.hp n :: argsAt r (n + a.n)
def apsN : List AP → Nat
 | [] => 0
 | a :: r => a.n + apsN r
def apsFine (l : List AP) : Bool := l.all fun a => a.hp.fine
theorem apDen_hp (a : AP) (us : List V) (j : Nat) : apDen a us j = hpDen a.hp us j := by cases a <;> rfl
theorem argsAt_den : ∀ (l : List AP) (n : Nat) (us : List V), apsFine l = true → (argsAt l n).map (SV.den (envL us)) = apsDen l us n
 | [], _, _, _ => rfl
 | a :: r, n, us, h => by
  simp only [apsFine, List.all_cons, Bool.and_eq_true] at h
  rw [argsAt, List.map_cons, apsDen, apDen_hp, hpAt_sh (m := n) h.1 (ρ := envL us) (us := us) (fun j _ => rfl), argsAt_den r (n + a.n) us h.2]
theorem argsAt_bd : ∀ (l : List AP) (n : Nat), ∀ x ∈ argsAt l n, x.bd (n + apsN l)
 | [], _ => by simp [argsAt]
 | a :: r, n => by
  intro x hx
  simp only [argsAt, List.mem_cons] at hx
  rcases hx with rfl | hx
  ·have hb : (hpAt a.hp n).bd (n + a.n) := by
    cases a with
    | c s => cases s <;> exact Nat.lt_succ_self n
    | agg l => exact shapesAt_bd l n
    | box l => exact boxesAt_bd l n
    | gbox l => exact boxesAt_bd l n
    | clo g ds => trivial
    | dead => trivial
   exact SV.bd_mono (by simp only [apsN]; omega) _ hb
  ·have := argsAt_bd r (n + a.n) x hx
   rw [apsN, ← Nat.add_assoc]
   exact this
section
variable {P : Program}
theorem fun_ok {Φ : List (FuncId × Fun)} {E : Env} (hm : P.follows .mixedOrders = true) (hps : PlainSound P E.plain) {f : FuncId} {fn : Func} {S : Fun} {n : Nat} {T : STree} (hf : P.funcs[f]? = some fn) (hname : (fn.name == "runtime.NumGoroutine") = false)
  (hfine : apsFine S.args = true) (hn : apsN S.args = n) (eq : evFn P E fn (argsAt S.args 0) n = T) (hΦ : OkAll P Φ) (hg : ∀ vs, S.g vs = T.run P Φ S.args S.res (fun _ _ => none) (envL vs)) : S.Ok P f := by
 intro vs r h
 rw [hg] at h
 have := callOk_ofR (R := fun x os => SlotsW P (os ++ [x]) (outsDen S.args (toVs _ r) (resN S.res) ++ [resDen S.res (toVs _ r) 0])) hm hps hf hname (args := argsAt S.args 0) (n := n) (ρ := envL vs)
  (fun a ha => by have := argsAt_bd S.args 0 a ha; rwa [Nat.zero_add, hn] at this) (fun _ _ h => h) (by rw [eq]; exact run_wp hΦ (fun _ _ h => h) T _ _ _ (fun _ _ h => by cases h) h)
 rw [argsAt_den S.args 0 vs hfine] at this
 exact this
end
end Go.AM
end
