/- Chains of children. -/
import Derived.Test.YtjfhdhplmibnfaaL12d
namespace Go.Proofs.Ytjfhdhplmibnfaa
open Go Go.AM
set_option linter.unusedSimpArgs false
set_option linter.unusedVariables false

def page : Cap := ⟨2, 4096, 12, 3, 0, 0, false⟩

theorem s48 : g48 = some (page.kind, page.base, page.bits, page.rights, page.width, page.level, page.device) := g48_eq

theorem s51 (a b c : Int) : g51 a b c = some (a % 4, 1 + b % 12, c % 3) := by
  rw [g51_eq, s24 a 4 (by omega) (by omega), Option.bind_some, s24 b 12 (by omega) (by omega), Option.bind_some, s24 c 3 (by omega) (by omega), Option.bind_some, add_i (by omega) (by omega)]

/-- The Ids of the chain, and its nodes. -/
def ida (c : Nat) (i : Nat) : Id := if i = 0 then ⟨c, 1, 0⟩ else ⟨5, i, 0⟩
def ndp (c i : Nat) : List Id := (List.range i).map (ida c)
def nd (c i : Nat) : Node := ⟨ida c i, ndp c i, page⟩

theorem child_nd : ∀ (c : Fin 4) (i : Fin 9), childErr (nd c.val i.val) (ida c.val (i.val + 1)) page = if i.val < 8 then 0 else 9 := by decide +kernel

theorem l14 (c : Nat) (hc : c < 4) (k : Nat) (hk : k < 12) : ∀ (j i fuel : Nat), k = i + j → j < fuel → i ≤ 8 →
    g14L0 fuel (ida c i).core (ida c i).op (ida c i).part (idCells (ndp c i)) page.kind page.base page.bits page.rights page.width page.level page.device (k : Int) (i : Int) = some true := by
  intro j
  induction j with
  | zero =>
    intro i fuel h hf hi
    obtain ⟨f, rfl⟩ : ∃ f, fuel = f + 1 := ⟨fuel - 1, by omega⟩
    have hl : (ndp c i).length = i := by simp [ndp]
    rw [g14L0_eq, if_neg (by simp only [cop_lss_t, cop_lss_f, cop_leq_t, cop_leq_f, cop_gtr_t, cop_gtr_f, cop_geq_t, cop_geq_f, cop_eql_t, cop_eql_f, cop_neq_t, cop_neq_f, Bool.not_eq_true, Bool.not_eq_false, Bool.not_eq_true', Bool.not_eq_false', Bool.and_eq_true, Bool.or_eq_true, decide_eq_true_eq, decide_eq_false_iff_not, Bool.false_eq_true, Bool.true_eq_false, Option.bind_some, Option.some.injEq, false_iff, true_iff, iff_false, iff_true]; omega), ids_len, hl, if_pos (by simp only [cop_lss_t, cop_lss_f, cop_leq_t, cop_leq_f, cop_gtr_t, cop_gtr_f, cop_geq_t, cop_geq_f, cop_eql_t, cop_eql_f, cop_neq_t, cop_neq_f, Bool.not_eq_true, Bool.not_eq_false, Bool.not_eq_true', Bool.not_eq_false', Bool.and_eq_true, Bool.or_eq_true, decide_eq_true_eq, decide_eq_false_iff_not, Bool.false_eq_true, Bool.true_eq_false, Option.bind_some, Option.some.injEq, false_iff, true_iff, iff_false, iff_true]; omega), s42]
    rfl
  | succ j ih =>
    intro i fuel h hf hi
    obtain ⟨f, rfl⟩ : ∃ f, fuel = f + 1 := ⟨fuel - 1, by omega⟩
    have hl : (ndp c i).length = i := by simp [ndp]
    have a4 : iop .add .i64 (i : Int) 1 = ((i + 1 : Nat) : Int) := by rw [add_i (by omega) (by omega)]; omega
    have hid : ida c (i + 1) = ⟨5, ((i + 1 : Nat) : Int), 0⟩ := by simp [ida]
    have he := child_nd ⟨c, hc⟩ ⟨i, by omega⟩
    dsimp only at he
    have q := s43 (nd c i) (by show (ndp c i).length < _; omega) (ida c (i + 1)) page
    have hnp : ndp c (i + 1) = ndp c i ++ [ida c i] := by simp [ndp, List.range_succ]
    have q' : g43 (ida c i).core (ida c i).op (ida c i).part (idCells (ndp c i)) page.kind page.base page.bits page.rights page.width page.level page.device 5 ((i + 1 : Nat) : Int) 0 page.kind page.base page.bits page.rights page.width page.level page.device =
      some (if childErr (nd c i) (ida c (i + 1)) page = 0 then ((ida c (i + 1)).core, (ida c (i + 1)).op, (ida c (i + 1)).part, idCells (ndp c (i + 1)), page.kind, page.base, page.bits, page.rights, page.width, page.level, page.device, 0) else (0, 0, 0, [], 0, 0, 0, 0, 0, 0, false, childErr (nd c i) (ida c (i + 1)) page)) := by
      rw [hnp]
      rw [hid] at q ⊢
      exact q
    rw [g14L0_eq, if_pos (by simp only [cop_lss_t, cop_lss_f, cop_leq_t, cop_leq_f, cop_gtr_t, cop_gtr_f, cop_geq_t, cop_geq_f, cop_eql_t, cop_eql_f, cop_neq_t, cop_neq_f, Bool.not_eq_true, Bool.not_eq_false, Bool.not_eq_true', Bool.not_eq_false', Bool.and_eq_true, Bool.or_eq_true, decide_eq_true_eq, decide_eq_false_iff_not, Bool.false_eq_true, Bool.true_eq_false, Option.bind_some, Option.some.injEq, false_iff, true_iff, iff_false, iff_true]; omega), s48, Option.bind_some]
    dsimp only
    rw [a4, q', Option.bind_some, he]
    by_cases h8 : i < 8
    · rw [if_pos h8, if_pos (rfl : (0 : Int) = 0)]
      dsimp only
      have hl' : (ndp c (i + 1)).length = i + 1 := by simp [ndp]
      rw [if_neg (by simp only [cop_lss_t, cop_lss_f, cop_leq_t, cop_leq_f, cop_gtr_t, cop_gtr_f, cop_geq_t, cop_geq_f, cop_eql_t, cop_eql_f, cop_neq_t, cop_neq_f, Bool.not_eq_true, Bool.not_eq_false, Bool.not_eq_true', Bool.not_eq_false', Bool.and_eq_true, Bool.or_eq_true, decide_eq_true_eq, decide_eq_false_iff_not, Bool.false_eq_true, Bool.true_eq_false, Option.bind_some, Option.some.injEq, false_iff, true_iff, iff_false, iff_true]; omega), if_neg (by decide), ids_len, hl', if_neg (by simp [cop])]
      exact ih (i + 1) f (by omega) (by omega) (by omega)
    · rw [if_neg h8, if_neg (show ¬ (9 : Int) = 0 by decide)]
      dsimp only
      rw [if_pos (by simp only [cop_lss_t, cop_lss_f, cop_leq_t, cop_leq_f, cop_gtr_t, cop_gtr_f, cop_geq_t, cop_geq_f, cop_eql_t, cop_eql_f, cop_neq_t, cop_neq_f, Bool.not_eq_true, Bool.not_eq_false, Bool.not_eq_true', Bool.not_eq_false', Bool.and_eq_true, Bool.or_eq_true, decide_eq_true_eq, decide_eq_false_iff_not, Bool.false_eq_true, Bool.true_eq_false, Option.bind_some, Option.some.injEq, false_iff, true_iff, iff_false, iff_true]; omega), if_pos (by decide), if_pos (by decide), s42]
      rfl

theorem s14 (x0 x1 : Int) : g14 x0 x1 = some true := by
  rw [g14_eq, s51, Option.bind_some, s48, Option.bind_some, s24 x1 12 (by omega) (by omega), Option.bind_some]
  dsimp only
  have h1 : 0 ≤ x0 % 4 ∧ x0 % 4 < 4 := by omega
  have h2 : 0 ≤ x1 % 12 ∧ x1 % 12 < 12 := by omega
  have := l14 (x0 % 4).toNat (by omega) (x1 % 12).toNat (by omega) (x1 % 12).toNat 0 FUEL (by omega) (fuel_lt (by omega)) (by omega)
  have e1 : ((x0 % 4).toNat : Int) = x0 % 4 := by omega
  have e2 : ((x1 % 12).toNat : Int) = x1 % 12 := by omega
  have e3 : ida (x0 % 4).toNat 0 = ⟨x0 % 4, 1, 0⟩ := by simp only [ida, if_true, e1]
  rw [e3, e2] at this
  exact this

end Go.Proofs.Ytjfhdhplmibnfaa
