/- The program's reader of nodes. -/
import Derived.Test.YtjfhdhplmibnfaaL12h
namespace Go.Proofs.Ytjfhdhplmibnfaa
open Go Go.AM
set_option linter.unusedSimpArgs false
set_option linter.unusedVariables false

/-- node.reader's integer: the value and where it stands then. -/
def rdo (lim : Nat) (bs : List Int) (off : Nat) : Option (Nat × Nat) :=
  match rd 0 (bs.drop off) with
  | some (w, k) => if w ≤ lim then some (w, off + k) else none
  | none => none

theorem rdo_le {lim : Nat} {bs : List Int} (hb : Bytes bs) {off w o : Nat} (ho : off ≤ bs.length) (h : rdo lim bs off = some (w, o)) : w ≤ lim ∧ off < o ∧ o ≤ bs.length ∧ (bs.drop off).take (o - off) = uv w := by
  unfold rdo at h
  split at h
  · rename_i w' k hr
    split at h
    · rename_i hle
      simp only [Option.some.injEq, Prod.mk.injEq] at h
      obtain ⟨rfl, rfl⟩ := h
      have hbd : Bytes (bs.drop off) := fun z hz => hb z (List.mem_of_mem_drop hz)
      obtain ⟨g1, g2, g3, g4⟩ := rd_lt _ 0 _ _ hbd (by omega) hr
      rw [List.length_drop] at g3
      refine ⟨hle, by omega, by omega, ?_⟩
      rw [show off + k - off = k by omega]
      exact rd_uv _ 0 _ _ hbd (by omega) hr
    · cases h
  · cases h

theorem s89f (x0 : List (List AV)) (x1 x3 : Int) : g89 x0 x1 true x3 = some (0, x0, x1, true) := by
  rw [g89_eq, if_pos rfl]

theorem s89 {bs : List Int} (hb : Bytes bs) (hl : bs.length ≤ 1000000) (off : Nat) (ho : off ≤ bs.length) (lim : Nat) (hlim : lim < 2 ^ 62) :
    g89 (byteCells bs) off false lim = some (match rdo lim bs off with | some (w, o) => ((w : Int), byteCells bs, (o : Int), false) | none => (0, byteCells bs, (off : Int), true)) := by
  have h62 : (2 : Nat) ^ 62 = 4611686018427387904 := by decide
  have h64 : (2 : Int) ^ 64 = 18446744073709551616 := by decide
  have h63 : (2 : Int) ^ 63 = 9223372036854775808 := by decide
  have hu : IntKind.wrap .u64 (lim : Int) = (lim : Int) := wrapu_of (by omega) (by omega)
  have h := s100 hb hl off ho
  rw [g89_eq, if_neg (by simp), hu]
  unfold rdo
  cases hr : rd 0 (bs.drop off) with
  | none =>
    rw [hr] at h
    obtain ⟨e, he, hg⟩ := h
    rw [hg, Option.bind_some, if_pos (by simp only [cop_lss_t, cop_lss_f, cop_leq_t, cop_leq_f, cop_gtr_t, cop_gtr_f, cop_geq_t, cop_geq_f, cop_eql_t, cop_eql_f, cop_neq_t, cop_neq_f, Bool.not_eq_true, Bool.not_eq_false, Bool.not_eq_true', Bool.not_eq_false', Bool.and_eq_true, Bool.or_eq_true, decide_eq_true_eq, decide_eq_false_iff_not, Bool.false_eq_true, Bool.true_eq_false, Option.bind_some, Option.some.injEq, false_iff, true_iff, iff_false, iff_true]; exact he)]
  | some p =>
    obtain ⟨w, k⟩ := p
    rw [hr] at h
    dsimp only at h ⊢
    rw [h, Option.bind_some, if_neg (by simp [cop])]
    dsimp only
    by_cases hw : w ≤ lim
    · rw [if_neg (by simp only [cop_lss_t, cop_lss_f, cop_leq_t, cop_leq_f, cop_gtr_t, cop_gtr_f, cop_geq_t, cop_geq_f, cop_eql_t, cop_eql_f, cop_neq_t, cop_neq_f, Bool.not_eq_true, Bool.not_eq_false, Bool.not_eq_true', Bool.not_eq_false', Bool.and_eq_true, Bool.or_eq_true, decide_eq_true_eq, decide_eq_false_iff_not, Bool.false_eq_true, Bool.true_eq_false, Option.bind_some, Option.some.injEq, false_iff, true_iff, iff_false, iff_true]; omega), if_pos hw, wrap_of (by omega) (by omega)]
    · rw [if_pos (by simp only [cop_lss_t, cop_lss_f, cop_leq_t, cop_leq_f, cop_gtr_t, cop_gtr_f, cop_geq_t, cop_geq_f, cop_eql_t, cop_eql_f, cop_neq_t, cop_neq_f, Bool.not_eq_true, Bool.not_eq_false, Bool.not_eq_true', Bool.not_eq_false', Bool.and_eq_true, Bool.or_eq_true, decide_eq_true_eq, decide_eq_false_iff_not, Bool.false_eq_true, Bool.true_eq_false, Option.bind_some, Option.some.injEq, false_iff, true_iff, iff_false, iff_true]; omega), if_neg hw]

/-- node.reader's id -/
def rid (bs : List Int) (off : Nat) : Option (Id × Nat) :=
  match rdo 32 bs off with
  | none => none
  | some (a, o) =>
    match rdo 1073741824 bs o with
    | none => none
    | some (b, o) =>
      match rdo 8 bs o with
      | none => none
      | some (c, o) => some (⟨a, b, c⟩, o)

theorem s88f (x0 : List (List AV)) (x1 : Int) : g88 x0 x1 true = some (0, 0, 0, x0, x1, true) := by
  rw [g88_eq, s89f, Option.bind_some, s89f, Option.bind_some, s89f, Option.bind_some]

theorem s88 {bs : List Int} (hb : Bytes bs) (hl : bs.length ≤ 1000000) (off : Nat) (ho : off ≤ bs.length) :
    match rid bs off with
    | some (i, o) => g88 (byteCells bs) off false = some (i.core, i.op, i.part, byteCells bs, (o : Int), false)
    | none => ∃ a b c o, g88 (byteCells bs) off false = some (a, b, c, byteCells bs, o, true) := by
  have q1 := s89 hb hl off ho 32 (by decide)
  rw [g88_eq]
  have e1 : (((32 : Nat) : Nat) : Int) = 32 := rfl
  have e2 : (((1073741824 : Nat) : Nat) : Int) = 1073741824 := rfl
  have e3 : (((8 : Nat) : Nat) : Int) = 8 := rfl
  rw [e1] at q1
  rw [q1, Option.bind_some]
  unfold rid
  cases h1 : rdo 32 bs off with
  | none =>
    dsimp only
    rw [s89f, Option.bind_some, s89f, Option.bind_some]
    exact ⟨_, _, _, _, rfl⟩
  | some p =>
    obtain ⟨a, o1⟩ := p
    obtain ⟨b1, b2, b3, b4⟩ := rdo_le hb ho h1
    dsimp only
    have q2 := s89 hb hl o1 b3 1073741824 (by decide)
    rw [e2] at q2
    rw [q2, Option.bind_some]
    cases h2 : rdo 1073741824 bs o1 with
    | none =>
      dsimp only
      rw [s89f, Option.bind_some]
      exact ⟨_, _, _, _, rfl⟩
    | some p =>
      obtain ⟨b, o2⟩ := p
      obtain ⟨c1, c2, c3, c4⟩ := rdo_le hb b3 h2
      dsimp only
      have q3 := s89 hb hl o2 c3 8 (by decide)
      rw [e3] at q3
      rw [q3, Option.bind_some]
      cases h3 : rdo 8 bs o2 with
      | none => exact ⟨_, _, _, _, rfl⟩
      | some p => rfl

theorem take_part {l : List Int} {a b c : Nat} (h1 : a ≤ b) (h2 : b ≤ c) : (l.drop a).take (c - a) = (l.drop a).take (b - a) ++ (l.drop b).take (c - b) := by
  have e : c - a = (b - a) + (c - b) := by omega
  rw [e, List.take_add, List.drop_drop, show a + (b - a) = b by omega]

theorem rid_le {bs : List Int} (hb : Bytes bs) {off o : Nat} {i : Id} (ho : off ≤ bs.length) (h : rid bs off = some (i, o)) : off < o ∧ o ≤ bs.length ∧ (bs.drop off).take (o - off) = idB i := by
  unfold rid at h
  split at h
  · cases h
  · rename_i a o1 h1
    obtain ⟨a1, a2, a3, a4⟩ := rdo_le hb ho h1
    split at h
    · cases h
    · rename_i b o2 h2
      obtain ⟨b1, b2, b3, b4⟩ := rdo_le hb a3 h2
      split at h
      · cases h
      · rename_i c o3 h3
        obtain ⟨c1, c2, c3, c4⟩ := rdo_le hb b3 h3
        simp only [Option.some.injEq, Prod.mk.injEq] at h
        obtain ⟨rfl, rfl⟩ := h
        refine ⟨by omega, c3, ?_⟩
        rw [take_part (b := o2) (by omega) (by omega), take_part (b := o1) (by omega) (by omega), a4, b4, c4]
        rfl

end Go.Proofs.Ytjfhdhplmibnfaa
