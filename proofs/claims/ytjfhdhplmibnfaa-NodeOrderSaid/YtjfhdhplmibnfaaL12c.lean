/- Less is a strict total order of Ids. -/
import Derived.Test.YtjfhdhplmibnfaaL12b
namespace Go.Proofs.Ytjfhdhplmibnfaa
open Go Go.AM
set_option linter.unusedSimpArgs false
set_option linter.unusedVariables false

theorem idLt_t (a b c d e f : Int) : (idLt a b c d e f = true) ↔ (a < d ∨ (a = d ∧ (b < e ∨ (b = e ∧ c < f)))) := by simp [idLt]
theorem idLt_f (a b c d e f : Int) : (idLt a b c d e f = false) ↔ ¬ (a < d ∨ (a = d ∧ (b < e ∨ (b = e ∧ c < f)))) := by simp only [idLt, decide_eq_false_iff_not]
theorem beq_t (x y : Bool) : ((x == y) = true) ↔ (x = true ↔ y = true) := by cases x <;> cases y <;> simp
theorem beq_f (x y : Bool) : ((x == y) = false) ↔ ¬ (x = true ↔ y = true) := by cases x <;> cases y <;> simp

theorem id_eqf (a b c d e f : Int) : ((cop .eql a d && (cop .eql b e && (cop .eql c f && true))) = false) ↔ ¬ (a = d ∧ b = e ∧ c = f) := by
  rw [← Bool.not_eq_true, id_eqb, Id.mk.injEq]

theorem s16 (x0 x1 x2 x3 x4 x5 x6 x7 x8 : Int) : g16 x0 x1 x2 x3 x4 x5 x6 x7 x8 = some true := by
  rw [g16_eq]
  simp only [s55, s42, Option.bind_some]
  repeat' (with_reducible refine ite_goal (fun _ => ?_) (fun _ => ?_))
  all_goals first
    | rfl
    | (exfalso; simp only [id_eqf, cop_lss_t, cop_lss_f, cop_leq_t, cop_leq_f, cop_gtr_t, cop_gtr_f, cop_geq_t, cop_geq_f, cop_eql_t, cop_eql_f, cop_neq_t, cop_neq_f, Bool.not_eq_true, Bool.not_eq_false, Bool.not_eq_true', Bool.not_eq_false', Bool.and_eq_true, Bool.or_eq_true, decide_eq_true_eq, decide_eq_false_iff_not, Bool.false_eq_true, Bool.true_eq_false, Option.bind_some, Option.some.injEq, false_iff, true_iff, iff_false, iff_true, Bool.not_not, beq_t, beq_f, idLt_t, idLt_f, and_true] at *; omega)

end Go.Proofs.Ytjfhdhplmibnfaa
