/- L11a, L11b, L11c, L11d, L11e, L11f, L12a, L12b, L12c, L12d, L12e, L12f, L12g: texts of the proof, put together. -/
import Derived.Test.YtjfhdhplmibnfaaF11a
import Derived.Test.YtjfhdhplmibnfaaEnd
import Derived.Test.YtjfhdhplmibnfaaF11b
import Derived.Test.YtjfhdhplmibnfaaF12a
import Derived.Test.YtjfhdhplmibnfaaF12b

section
namespace Go.Proofs.Ytjfhdhplmibnfaa
open Go Go.AM
set_option linter.unusedSimpArgs false
set_option linter.unusedVariables false

/-- captype.sizeAllowed -/
def sizeOk (k b : Int) : Bool := decide ((k = 1 ∧ 6 ≤ b ∧ b ≤ 40) ∨ (k = 2 ∧ 12 ≤ b ∧ b ≤ 40) ∨ (k = 3 ∧ b = 12) ∨ (k = 4 ∧ b = 6) ∨ (k = 5 ∧ b = 10) ∨ (k = 6 ∧ b = 16))

theorem s67 (k b : Int) : g67 k b = some (sizeOk k b) := by
  rw [g67_eq]
  repeat' split
  all_goals (refine congrArg some ?_; rw [bool_iff]; simp only [sizeOk, cop_lss_t, cop_lss_f, cop_leq_t, cop_leq_f, cop_gtr_t, cop_gtr_f, cop_geq_t, cop_geq_f, cop_eql_t, cop_eql_f, cop_neq_t, cop_neq_f, Bool.not_eq_true, Bool.not_eq_false, Bool.not_eq_true', Bool.not_eq_false', Bool.and_eq_true, Bool.or_eq_true, decide_eq_true_eq, decide_eq_false_iff_not, Bool.false_eq_true, Bool.true_eq_false, Option.bind_some, Option.some.injEq, false_iff, true_iff, iff_false, iff_true] at *; omega)

/-- multikernelref10.fixed -/
def fixedOf (k : Int) : Int := if k = 3 then 12 else if k = 4 then 6 else if k = 5 then 10 else if k = 6 then 16 else 0

theorem s94 (k : Int) : g94 k = some (fixedOf k) := by
  rw [g94_eq]
  simp only [cop_lss_t, cop_lss_f, cop_leq_t, cop_leq_f, cop_gtr_t, cop_gtr_f, cop_geq_t, cop_geq_f, cop_eql_t, cop_eql_f, cop_neq_t, cop_neq_f, Bool.not_eq_true, Bool.not_eq_false, Bool.not_eq_true', Bool.not_eq_false', Bool.and_eq_true, Bool.or_eq_true, decide_eq_true_eq, decide_eq_false_iff_not, Bool.false_eq_true, Bool.true_eq_false, Option.bind_some, Option.some.injEq, false_iff, true_iff, iff_false, iff_true, fixedOf]
  repeat' split
  all_goals first | rfl | omega

theorem s69 (k b : Int) : g69 k b = some (sizeOk k b) := by
  rw [g69_eq]
  simp only [s94, Option.bind_some]
  repeat' split
  all_goals (refine congrArg some ?_; rw [bool_iff]; simp only [sizeOk, cop_lss_t, cop_lss_f, cop_leq_t, cop_leq_f, cop_gtr_t, cop_gtr_f, cop_geq_t, cop_geq_f, cop_eql_t, cop_eql_f, cop_neq_t, cop_neq_f, Bool.not_eq_true, Bool.not_eq_false, Bool.not_eq_true', Bool.not_eq_false', Bool.and_eq_true, Bool.or_eq_true, decide_eq_true_eq, decide_eq_false_iff_not, Bool.false_eq_true, Bool.true_eq_false, Option.bind_some, Option.some.injEq, false_iff, true_iff, iff_false, iff_true] at *; first | omega | (rcases (by omega : k = 3 ∨ k = 4 ∨ k = 5 ∨ k = 6) with rfl | rfl | rfl | rfl <;> simp [fixedOf]))

/-- captype.formatAllowed -/
def formOk (w l : Int) : Bool := decide ((w = 32 ∧ 0 ≤ l ∧ l ≤ 1) ∨ (w = 39 ∧ 0 ≤ l ∧ l ≤ 2))

theorem s68 (w l : Int) : g68 w l = some (formOk w l) := by
  rw [g68_eq]
  repeat' split
  all_goals (refine congrArg some ?_; rw [bool_iff]; simp only [formOk, cop_lss_t, cop_lss_f, cop_leq_t, cop_leq_f, cop_gtr_t, cop_gtr_f, cop_geq_t, cop_geq_f, cop_eql_t, cop_eql_f, cop_neq_t, cop_neq_f, Bool.not_eq_true, Bool.not_eq_false, Bool.not_eq_true', Bool.not_eq_false', Bool.and_eq_true, Bool.or_eq_true, decide_eq_true_eq, decide_eq_false_iff_not, Bool.false_eq_true, Bool.true_eq_false, Option.bind_some, Option.some.injEq, false_iff, true_iff, iff_false, iff_true] at *; omega)

theorem s70 (w l : Int) : g70 w l = some (formOk w l) := by
  rw [g70_eq]
  repeat' split
  all_goals (refine congrArg some ?_; rw [bool_iff]; simp only [formOk, cop_lss_t, cop_lss_f, cop_leq_t, cop_leq_f, cop_gtr_t, cop_gtr_f, cop_geq_t, cop_geq_f, cop_eql_t, cop_eql_f, cop_neq_t, cop_neq_f, Bool.not_eq_true, Bool.not_eq_false, Bool.not_eq_true', Bool.not_eq_false', Bool.and_eq_true, Bool.or_eq_true, decide_eq_true_eq, decide_eq_false_iff_not, Bool.false_eq_true, Bool.true_eq_false, Option.bind_some, Option.some.injEq, false_iff, true_iff, iff_false, iff_true] at *; omega)

/-- memrange.Valid -/
def rngOk (a b : Int) : Bool := decide (6 ≤ b ∧ b ≤ 40 ∧ 0 ≤ a ∧ a % 2 ^ b.toNat = 0 ∧ a + 2 ^ b.toNat ≤ 1099511627776)

theorem pow_hi {b : Int} (h : b ≤ 40) : (2 : Int) ^ b.toNat ≤ 1099511627776 := by
  have := pow_le2 (m := b.toNat) (n := 40) (by omega)
  have e : (2 : Int) ^ 40 = 1099511627776 := by decide
  omega

theorem rem_pow {a : Int} {n : Nat} (h : 0 ≤ a) : iop .rem .i64 a (2 ^ n) = a % 2 ^ n := Int.tmod_eq_emod_of_nonneg h

theorem sub_hi {b : Int} (h : b ≤ 40) : iop .sub .i64 1099511627776 (2 ^ b.toNat) = 1099511627776 - 2 ^ b.toNat := by
  have := pow_hi h
  have := pow_pos2 b.toNat
  exact wrap_of (by omega) (by omega)

theorem s71 (a b : Int) : g71 a b = some (rngOk a b) := by
  have hp := pow_pos2 b.toNat
  rw [g71_eq]
  by_cases h1 : 6 ≤ b ∧ b ≤ 40 ∧ 0 ≤ a
  · obtain ⟨h1, h2, h3⟩ := h1
    have hs : iop .shl .i64 1 b = 2 ^ b.toNat := shl1 (by omega)
    have hr : reqK ((0 : Int) ≤ b) = fun (x : Option Bool) => x := funext fun x => reqK_pos (by omega) x
    have hn : reqK (((2 : Int) ^ b.toNat) ≠ 0) = fun (x : Option Bool) => x := funext fun x => reqK_pos (by omega) x
    simp only [hs, hr, hn, rem_pow h3, sub_hi h2]
    repeat' split
    all_goals (refine congrArg some ?_; rw [bool_iff]; simp only [rngOk, cop_lss_t, cop_lss_f, cop_leq_t, cop_leq_f, cop_gtr_t, cop_gtr_f, cop_geq_t, cop_geq_f, cop_eql_t, cop_eql_f, cop_neq_t, cop_neq_f, Bool.not_eq_true, Bool.not_eq_false, Bool.not_eq_true', Bool.not_eq_false', Bool.and_eq_true, Bool.or_eq_true, decide_eq_true_eq, decide_eq_false_iff_not, Bool.false_eq_true, Bool.true_eq_false, Option.bind_some, Option.some.injEq, false_iff, true_iff, iff_false, iff_true] at *; omega)
  · have hf : rngOk a b = false := by simp only [rngOk, decide_eq_false_iff_not]; omega
    rw [hf]
    repeat' split
    all_goals first | rfl | (exfalso; simp only [cop_lss_t, cop_lss_f, cop_leq_t, cop_leq_f, cop_gtr_t, cop_gtr_f, cop_geq_t, cop_geq_f, cop_eql_t, cop_eql_f, cop_neq_t, cop_neq_f, Bool.not_eq_true, Bool.not_eq_false, Bool.not_eq_true', Bool.not_eq_false', Bool.and_eq_true, Bool.or_eq_true, decide_eq_true_eq, decide_eq_false_iff_not, Bool.false_eq_true, Bool.true_eq_false, Option.bind_some, Option.some.injEq, false_iff, true_iff, iff_false, iff_true] at *; omega)

theorem s75 (a b : Int) : g75 a b = some (rngOk a b) := by
  have hp := pow_pos2 b.toNat
  rw [g75_eq]
  by_cases h1 : 6 ≤ b ∧ b ≤ 40 ∧ 0 ≤ a
  · obtain ⟨h1, h2, h3⟩ := h1
    have hw : IntKind.wrap .u64 b = b := wrapu_of (by omega) (by omega)
    have hs : iop .shl .i64 1 b = 2 ^ b.toNat := shl1 (by omega)
    have hr : reqK ((0 : Int) ≤ b) = fun (x : Option Bool) => x := funext fun x => reqK_pos (by omega) x
    have hn : reqK (((2 : Int) ^ b.toNat) ≠ 0) = fun (x : Option Bool) => x := funext fun x => reqK_pos (by omega) x
    have h40 := pow_hi h2
    simp only [hw, hs, hr, hn, rem_pow h3]
    repeat' split
    all_goals (refine congrArg some ?_; rw [bool_iff]; simp only [rngOk, cop_lss_t, cop_lss_f, cop_leq_t, cop_leq_f, cop_gtr_t, cop_gtr_f, cop_geq_t, cop_geq_f, cop_eql_t, cop_eql_f, cop_neq_t, cop_neq_f, Bool.not_eq_true, Bool.not_eq_false, Bool.not_eq_true', Bool.not_eq_false', Bool.and_eq_true, Bool.or_eq_true, decide_eq_true_eq, decide_eq_false_iff_not, Bool.false_eq_true, Bool.true_eq_false, Option.bind_some, Option.some.injEq, false_iff, true_iff, iff_false, iff_true] at *; first | omega | (rw [add_i (by omega) (by omega)] at *; omega))
  · have hf : rngOk a b = false := by simp only [rngOk, decide_eq_false_iff_not]; omega
    rw [hf]
    repeat' split
    all_goals first | rfl | (exfalso; simp only [cop_lss_t, cop_lss_f, cop_leq_t, cop_leq_f, cop_gtr_t, cop_gtr_f, cop_geq_t, cop_geq_f, cop_eql_t, cop_eql_f, cop_neq_t, cop_neq_f, Bool.not_eq_true, Bool.not_eq_false, Bool.not_eq_true', Bool.not_eq_false', Bool.and_eq_true, Bool.or_eq_true, decide_eq_true_eq, decide_eq_false_iff_not, Bool.false_eq_true, Bool.true_eq_false, Option.bind_some, Option.some.injEq, false_iff, true_iff, iff_false, iff_true] at *; omega)

/-- memrange.End -/
def rngEnd (a b : Int) : Int := if rngOk a b = true then a + 2 ^ b.toNat else 0

theorem rngOk_of {a b : Int} (h : rngOk a b = true) : 6 ≤ b ∧ b ≤ 40 ∧ 0 ≤ a ∧ a % 2 ^ b.toNat = 0 ∧ a + 2 ^ b.toNat ≤ 1099511627776 := by simpa [rngOk] using h

theorem end_val {a b : Int} (h : rngOk a b = true) : iop .add .i64 a (iop .shl .i64 1 b) = rngEnd a b := by
  obtain ⟨h1, h2, h3, h4, h5⟩ := rngOk_of h
  have := pow_pos2 b.toNat
  rw [shl1 (by omega), add_i (by omega) (by omega), rngEnd, if_pos h]

theorem s95 (a b : Int) : g95 a b = some (rngEnd a b) := by
  rw [g95_eq]
  simp only [s71, Option.bind_some]
  cases h : rngOk a b with
  | false => simp [rngEnd, h]
  | true =>
    obtain ⟨h1, h2, h3, h4, h5⟩ := rngOk_of h
    simp only [Bool.not_true, Bool.false_eq_true, if_false]
    rw [reqK_pos (by omega), end_val h]

theorem s76 (a b : Int) : g76 a b = some (rngEnd a b) := by
  rw [g76_eq]
  simp only [s75, Option.bind_some]
  cases h : rngOk a b with
  | false => simp [rngEnd, h]
  | true =>
    obtain ⟨h1, h2, h3, h4, h5⟩ := rngOk_of h
    have hw : IntKind.wrap .u64 b = b := wrapu_of (by omega) (by omega)
    simp only [Bool.not_true, Bool.false_eq_true, if_false, hw]
    rw [reqK_pos (by omega), end_val h]

/-- memrange.Overlaps -/
def overB (a b c d : Int) : Bool := rngOk a b && rngOk c d && decide (a < rngEnd c d) && decide (c < rngEnd a b)

theorem s73 (a b c d : Int) : g73 a b c d = some (overB a b c d) := by
  rw [g73_eq]
  simp only [s71, s95, Option.bind_some]
  repeat' split
  all_goals (refine congrArg some ?_; rw [bool_iff]; simp only [overB, cop_lss_t, cop_lss_f, cop_leq_t, cop_leq_f, cop_gtr_t, cop_gtr_f, cop_geq_t, cop_geq_f, cop_eql_t, cop_eql_f, cop_neq_t, cop_neq_f, Bool.not_eq_true, Bool.not_eq_false, Bool.not_eq_true', Bool.not_eq_false', Bool.and_eq_true, Bool.or_eq_true, decide_eq_true_eq, decide_eq_false_iff_not, Bool.false_eq_true, Bool.true_eq_false, Option.bind_some, Option.some.injEq, false_iff, true_iff, iff_false, iff_true] at *; grind)

theorem s31 (a b c d : Int) : g31 a b c d = some (overB a b c d) := by
  rw [g31_eq]
  simp only [s75, s76, Option.bind_some]
  repeat' split
  all_goals (refine congrArg some ?_; rw [bool_iff]; simp only [overB, cop_lss_t, cop_lss_f, cop_leq_t, cop_leq_f, cop_gtr_t, cop_gtr_f, cop_geq_t, cop_geq_f, cop_eql_t, cop_eql_f, cop_neq_t, cop_neq_f, Bool.not_eq_true, Bool.not_eq_false, Bool.not_eq_true', Bool.not_eq_false', Bool.and_eq_true, Bool.or_eq_true, decide_eq_true_eq, decide_eq_false_iff_not, Bool.false_eq_true, Bool.true_eq_false, Option.bind_some, Option.some.injEq, false_iff, true_iff, iff_false, iff_true] at *; grind)

/-- memrange.Contains -/
def inB (a b c d : Int) : Bool := rngOk a b && rngOk c d && decide (a ≤ c) && decide (rngEnd c d ≤ rngEnd a b)

theorem s74 (a b c d : Int) : g74 a b c d = some (inB a b c d) := by
  rw [g74_eq]
  simp only [s71, s95, Option.bind_some]
  repeat' split
  all_goals (refine congrArg some ?_; rw [bool_iff]; simp only [inB, cop_lss_t, cop_lss_f, cop_leq_t, cop_leq_f, cop_gtr_t, cop_gtr_f, cop_geq_t, cop_geq_f, cop_eql_t, cop_eql_f, cop_neq_t, cop_neq_f, Bool.not_eq_true, Bool.not_eq_false, Bool.not_eq_true', Bool.not_eq_false', Bool.and_eq_true, Bool.or_eq_true, decide_eq_true_eq, decide_eq_false_iff_not, Bool.false_eq_true, Bool.true_eq_false, Option.bind_some, Option.some.injEq, false_iff, true_iff, iff_false, iff_true] at *; grind)

theorem s77 (a b c d : Int) : g77 a b c d = some (inB a b c d) := by
  rw [g77_eq]
  simp only [s75, s76, Option.bind_some]
  repeat' split
  all_goals (refine congrArg some ?_; rw [bool_iff]; simp only [inB, cop_lss_t, cop_lss_f, cop_leq_t, cop_leq_f, cop_gtr_t, cop_gtr_f, cop_geq_t, cop_geq_f, cop_eql_t, cop_eql_f, cop_neq_t, cop_neq_f, Bool.not_eq_true, Bool.not_eq_false, Bool.not_eq_true', Bool.not_eq_false', Bool.and_eq_true, Bool.or_eq_true, decide_eq_true_eq, decide_eq_false_iff_not, Bool.false_eq_true, Bool.true_eq_false, Option.bind_some, Option.some.injEq, false_iff, true_iff, iff_false, iff_true] at *; grind)

structure Cap where
  kind : Int
  base : Int
  bits : Int
  rights : Int
  width : Int
  level : Int
  device : Bool

theorem s32 (k b s r w l : Int) (d : Bool) : g32 k b s r w l d = some (b, s) := g32_eq ..
theorem s34 (k b s r w l : Int) (d : Bool) : g34 k b s r w l d = some (b, s) := g34_eq ..

/-- captype.Valid -/
def capOk (c : Cap) : Bool := sizeOk c.kind c.bits && rngOk c.base c.bits && decide (0 ≤ c.rights ∧ c.rights ≤ 7) && (if c.kind = 3 then formOk c.width c.level else decide (c.width = 0 ∧ c.level = 0)) && (!c.device || decide (c.kind = 1) || decide (c.kind = 2))

theorem s28 (k b s r w l : Int) (d : Bool) : g28 k b s r w l d = some (capOk ⟨k, b, s, r, w, l, d⟩) := by
  rw [g28_eq]
  simp only [s67, s32, s71, s68, Option.bind_some]
  repeat' split
  all_goals (refine congrArg some ?_; rw [bool_iff]; simp only [capOk, cop_lss_t, cop_lss_f, cop_leq_t, cop_leq_f, cop_gtr_t, cop_gtr_f, cop_geq_t, cop_geq_f, cop_eql_t, cop_eql_f, cop_neq_t, cop_neq_f, Bool.not_eq_true, Bool.not_eq_false, Bool.not_eq_true', Bool.not_eq_false', Bool.and_eq_true, Bool.or_eq_true, decide_eq_true_eq, decide_eq_false_iff_not, Bool.false_eq_true, Bool.true_eq_false, Option.bind_some, Option.some.injEq, false_iff, true_iff, iff_false, iff_true] at *; grind)

theorem s33 (k b s r w l : Int) (d : Bool) : g33 k b s r w l d = some (capOk ⟨k, b, s, r, w, l, d⟩) := by
  rw [g33_eq]
  simp only [s69, s34, s75, s70, Option.bind_some]
  repeat' split
  all_goals (refine congrArg some ?_; rw [bool_iff]; simp only [capOk, cop_lss_t, cop_lss_f, cop_leq_t, cop_leq_f, cop_gtr_t, cop_gtr_f, cop_geq_t, cop_geq_f, cop_eql_t, cop_eql_f, cop_neq_t, cop_neq_f, Bool.not_eq_true, Bool.not_eq_false, Bool.not_eq_true', Bool.not_eq_false', Bool.and_eq_true, Bool.or_eq_true, decide_eq_true_eq, decide_eq_false_iff_not, Bool.false_eq_true, Bool.true_eq_false, Option.bind_some, Option.some.injEq, false_iff, true_iff, iff_false, iff_true] at *; grind)

/-- captype.SameObject -/
def sameB (a b : Cap) : Bool := decide (a.kind = b.kind) && decide (a.base = b.base) && decide (a.bits = b.bits) && decide (a.width = b.width) && decide (a.level = b.level) && decide (a.device = b.device)

theorem s27 (k b s r w l : Int) (d : Bool) (k' b' s' r' w' l' : Int) (d' : Bool) : g27 k b s r w l d k' b' s' r' w' l' d' = some (sameB ⟨k, b, s, r, w, l, d⟩ ⟨k', b', s', r', w', l', d'⟩) := by
  rw [g27_eq]
  repeat' split
  all_goals (refine congrArg some ?_; rw [bool_iff]; simp only [sameB, cop_lss_t, cop_lss_f, cop_leq_t, cop_leq_f, cop_gtr_t, cop_gtr_f, cop_geq_t, cop_geq_f, cop_eql_t, cop_eql_f, cop_neq_t, cop_neq_f, Bool.not_eq_true, Bool.not_eq_false, Bool.not_eq_true', Bool.not_eq_false', Bool.and_eq_true, Bool.or_eq_true, decide_eq_true_eq, decide_eq_false_iff_not, Bool.false_eq_true, Bool.true_eq_false, Option.bind_some, Option.some.injEq, false_iff, true_iff, iff_false, iff_true, beq_iff_eq] at *; grind)

theorem s35 (k b s r w l : Int) (d : Bool) (k' b' s' r' w' l' : Int) (d' : Bool) : g35 k b s r w l d k' b' s' r' w' l' d' = some (sameB ⟨k, b, s, r, w, l, d⟩ ⟨k', b', s', r', w', l', d'⟩) := by
  rw [g35_eq]
  repeat' split
  all_goals (refine congrArg some ?_; rw [bool_iff]; simp only [sameB, cop_lss_t, cop_lss_f, cop_leq_t, cop_leq_f, cop_gtr_t, cop_gtr_f, cop_geq_t, cop_geq_f, cop_eql_t, cop_eql_f, cop_neq_t, cop_neq_f, Bool.not_eq_true, Bool.not_eq_false, Bool.not_eq_true', Bool.not_eq_false', Bool.and_eq_true, Bool.or_eq_true, decide_eq_true_eq, decide_eq_false_iff_not, Bool.false_eq_true, Bool.true_eq_false, Option.bind_some, Option.some.injEq, false_iff, true_iff, iff_false, iff_true, beq_iff_eq] at *; grind)

/-- captype.Coexist -/
def coB (a b : Cap) : Bool := !overB a.base a.bits b.base b.bits || sameB a b || (decide (a.kind = 1) && inB a.base a.bits b.base b.bits) || (decide (b.kind = 1) && inB b.base b.bits a.base a.bits)

theorem s30 (k b s r w l : Int) (d : Bool) (k' b' s' r' w' l' : Int) (d' : Bool) : g30 k b s r w l d k' b' s' r' w' l' d' = some (coB ⟨k, b, s, r, w, l, d⟩ ⟨k', b', s', r', w', l', d'⟩) := by
  rw [g30_eq]
  simp only [s32, s73, s27, s74, Option.bind_some]
  repeat' split
  all_goals (refine congrArg some ?_; rw [bool_iff]; simp only [coB, cop_lss_t, cop_lss_f, cop_leq_t, cop_leq_f, cop_gtr_t, cop_gtr_f, cop_geq_t, cop_geq_f, cop_eql_t, cop_eql_f, cop_neq_t, cop_neq_f, Bool.not_eq_true, Bool.not_eq_false, Bool.not_eq_true', Bool.not_eq_false', Bool.and_eq_true, Bool.or_eq_true, decide_eq_true_eq, decide_eq_false_iff_not, Bool.false_eq_true, Bool.true_eq_false, Option.bind_some, Option.some.injEq, false_iff, true_iff, iff_false, iff_true] at *; grind)

theorem s36 (k b s r w l : Int) (d : Bool) (k' b' s' r' w' l' : Int) (d' : Bool) : g36 k b s r w l d k' b' s' r' w' l' d' = some (coB ⟨k, b, s, r, w, l, d⟩ ⟨k', b', s', r', w', l', d'⟩) := by
  rw [g36_eq]
  simp only [s34, s31, s35, s77, Option.bind_some]
  repeat' split
  all_goals (refine congrArg some ?_; rw [bool_iff]; simp only [coB, cop_lss_t, cop_lss_f, cop_leq_t, cop_leq_f, cop_gtr_t, cop_gtr_f, cop_geq_t, cop_geq_f, cop_eql_t, cop_eql_f, cop_neq_t, cop_neq_f, Bool.not_eq_true, Bool.not_eq_false, Bool.not_eq_true', Bool.not_eq_false', Bool.and_eq_true, Bool.or_eq_true, decide_eq_true_eq, decide_eq_false_iff_not, Bool.false_eq_true, Bool.true_eq_false, Option.bind_some, Option.some.injEq, false_iff, true_iff, iff_false, iff_true] at *; grind)

theorem s26 (k b s r w l : Int) (d : Bool) (m : Int) : g26 k b s r w l d m = some (k, b, s, iop .and .i64 r m, w, l, d) := g26_eq ..
theorem s37 (k b s r w l : Int) (d : Bool) (m : Int) : g37 k b s r w l d m = some (k, b, s, iop .and .i64 r m, w, l, d) := g37_eq ..

end Go.Proofs.Ytjfhdhplmibnfaa
end

section
namespace Go.Proofs.Ytjfhdhplmibnfaa
open Go Go.AM
set_option linter.unusedSimpArgs false
set_option linter.unusedVariables false

/-- The cells of the capabilities that Retype makes. -/
def newCell (obj a sz bits r w l : Int) (d : Bool) (j : Nat) : List AV := [I obj, I (a + j * sz), I bits, I r, I w, I l, B d]
def newCells (obj a sz bits r w l : Int) (d : Bool) (n : Nat) : List (List AV) := (List.range n).map (newCell obj a sz bits r w l d)

theorem newCells_succ (obj a sz bits r w l : Int) (d : Bool) (n : Nat) : newCells obj a sz bits r w l d (n + 1) = newCells obj a sz bits r w l d n ++ [newCell obj a sz bits r w l d n] := by
  simp [newCells, List.range_succ]
theorem newCells_len (obj a sz bits r w l : Int) (d : Bool) (n : Nat) : (newCells obj a sz bits r w l d n).length = n := by simp [newCells]

theorem newCells_at (obj a sz bits r w l : Int) (d : Bool) (n i : Nat) (h : i < n) : (newCells obj a sz bits r w l d n)[i]? = some (newCell obj a sz bits r w l d i) := by
  simp [newCells, h]

theorem fuel_lt {n : Nat} (h : n < 2 ^ 64) : n < FUEL := by
  have : FUEL = 1208925819614629174706176 := rfl
  omega

theorem room_ok {a b : List (List AV)} {k : Nat} (h : (a.length + b.length) * (k + 1) ≤ 1099511627776) : roomP a b k := h

theorem l20 {b r w l k s : Int} {d : Bool} {lv wd bits sz off obj cnt : Int} (hb : 0 ≤ b) (hoff : 0 ≤ off) (hsz : 0 ≤ sz) (hc : cnt ≤ 8) (hm : b + off + 8 * sz < 2 ^ 62) : ∀ (j i fuel : Nat), cnt = i + j → j < fuel →
    g20L0 fuel obj bits lv wd off k b s r w l d sz (newCells obj (b + off) sz bits r wd lv d i) cnt i = some (newCells obj (b + off) sz bits r wd lv d cnt.toNat, 0) := by
  intro j
  have e62 : (2 : Int) ^ 62 = 4611686018427387904 := by decide
  induction j with
  | zero =>
    intro i fuel h hf
    obtain ⟨f, rfl⟩ : ∃ f, fuel = f + 1 := ⟨fuel - 1, by omega⟩
    rw [g20L0_eq, if_neg (by simp only [cop_lss_t, cop_lss_f, cop_leq_t, cop_leq_f, cop_gtr_t, cop_gtr_f, cop_geq_t, cop_geq_f, cop_eql_t, cop_eql_f, cop_neq_t, cop_neq_f, Bool.not_eq_true, Bool.not_eq_false, Bool.not_eq_true', Bool.not_eq_false', Bool.and_eq_true, Bool.or_eq_true, decide_eq_true_eq, decide_eq_false_iff_not, Bool.false_eq_true, Bool.true_eq_false, Option.bind_some, Option.some.injEq, false_iff, true_iff, iff_false, iff_true]; omega)]
    have : cnt.toNat = i := by omega
    rw [this]
  | succ j ih =>
    intro i fuel h hf
    obtain ⟨f, rfl⟩ : ∃ f, fuel = f + 1 := ⟨fuel - 1, by omega⟩
    have hsi : (i : Int) * sz ≤ 8 * sz := Int.mul_le_mul_of_nonneg_right (by omega) hsz
    have hsi0 : 0 ≤ (i : Int) * sz := Int.mul_nonneg (by omega) hsz
    have a1 : iop .add .i64 b off = b + off := add_i (by omega) (by omega)
    have a2 : iop .mul .i64 i sz = i * sz := mul_i (by omega) (by omega)
    have a3 : iop .add .i64 (b + off) (i * sz) = b + off + i * sz := add_i (by omega) (by omega)
    have a4 : iop .add .i64 i 1 = ((i + 1 : Nat) : Int) := by rw [add_i (by omega) (by omega)]; omega
    rw [g20L0_eq, if_pos (by simp only [cop_lss_t, cop_lss_f, cop_leq_t, cop_leq_f, cop_gtr_t, cop_gtr_f, cop_geq_t, cop_geq_f, cop_eql_t, cop_eql_f, cop_neq_t, cop_neq_f, Bool.not_eq_true, Bool.not_eq_false, Bool.not_eq_true', Bool.not_eq_false', Bool.and_eq_true, Bool.or_eq_true, decide_eq_true_eq, decide_eq_false_iff_not, Bool.false_eq_true, Bool.true_eq_false, Option.bind_some, Option.some.injEq, false_iff, true_iff, iff_false, iff_true]; omega), reqK_pos (room_ok (by rw [newCells_len]; simp; omega)), a1, a2, a3, a4]
    have := ih (i + 1) f (by omega) (by omega)
    rw [newCells_succ] at this
    exact this

theorem l21 {b r w l k s : Int} {d fl : Bool} {lv wd bits sz off obj cnt : Int} (hb : 0 ≤ b) (hoff : 0 ≤ off) (hsz : 0 ≤ sz) (hc : cnt ≤ 8) (hm : b + off + 8 * sz < 2 ^ 62) : ∀ (j i fuel : Nat), cnt = i + j → j < fuel →
    g21L0 fuel obj bits lv wd off cnt k b s r w l d fl sz (newCells obj (b + off) sz bits r (if fl = true then wd else 0) (if fl = true then lv else 0) d i) i = some (newCells obj (b + off) sz bits r (if fl = true then wd else 0) (if fl = true then lv else 0) d cnt.toNat, 0) := by
  intro j
  have e62 : (2 : Int) ^ 62 = 4611686018427387904 := by decide
  induction j with
  | zero =>
    intro i fuel h hf
    obtain ⟨f, rfl⟩ : ∃ f, fuel = f + 1 := ⟨fuel - 1, by omega⟩
    rw [g21L0_eq, if_neg (by simp only [cop_lss_t, cop_lss_f, cop_leq_t, cop_leq_f, cop_gtr_t, cop_gtr_f, cop_geq_t, cop_geq_f, cop_eql_t, cop_eql_f, cop_neq_t, cop_neq_f, Bool.not_eq_true, Bool.not_eq_false, Bool.not_eq_true', Bool.not_eq_false', Bool.and_eq_true, Bool.or_eq_true, decide_eq_true_eq, decide_eq_false_iff_not, Bool.false_eq_true, Bool.true_eq_false, Option.bind_some, Option.some.injEq, false_iff, true_iff, iff_false, iff_true]; omega)]
    have : cnt.toNat = i := by omega
    rw [this]
  | succ j ih =>
    intro i fuel h hf
    obtain ⟨f, rfl⟩ : ∃ f, fuel = f + 1 := ⟨fuel - 1, by omega⟩
    have hsi : (i : Int) * sz ≤ 8 * sz := Int.mul_le_mul_of_nonneg_right (by omega) hsz
    have hsi0 : 0 ≤ (i : Int) * sz := Int.mul_nonneg (by omega) hsz
    have a1 : iop .add .i64 b off = b + off := add_i (by omega) (by omega)
    have a2 : iop .mul .i64 i sz = i * sz := mul_i (by omega) (by omega)
    have a3 : iop .add .i64 (b + off) (i * sz) = b + off + i * sz := add_i (by omega) (by omega)
    have a4 : iop .add .i64 i 1 = ((i + 1 : Nat) : Int) := by rw [add_i (by omega) (by omega)]; omega
    have := ih (i + 1) f (by omega) (by omega)
    rw [newCells_succ] at this
    rw [g21L0_eq, if_pos (by simp only [cop_lss_t, cop_lss_f, cop_leq_t, cop_leq_f, cop_gtr_t, cop_gtr_f, cop_geq_t, cop_geq_f, cop_eql_t, cop_eql_f, cop_neq_t, cop_neq_f, Bool.not_eq_true, Bool.not_eq_false, Bool.not_eq_true', Bool.not_eq_false', Bool.and_eq_true, Bool.or_eq_true, decide_eq_true_eq, decide_eq_false_iff_not, Bool.false_eq_true, Bool.true_eq_false, Option.bind_some, Option.some.injEq, false_iff, true_iff, iff_false, iff_true]; omega)]
    cases fl
    · simp only [Bool.false_eq_true, if_false] at this ⊢
      rw [reqK_pos (room_ok (by rw [newCells_len]; simp; omega)), a1, a2, a3, a4]
      exact this
    · simp only [if_true] at this ⊢
      rw [reqK_pos (room_ok (by rw [newCells_len]; simp; omega)), a1, a2, a3, a4]
      exact this

theorem size_rng {k b : Int} (h : sizeOk k b = true) : 6 ≤ b ∧ b ≤ 40 := by
  simp only [sizeOk, decide_eq_true_eq] at h
  omega

theorem cap_rng {c : Cap} (h : capOk c = true) : rngOk c.base c.bits = true := by
  simp only [capOk, Bool.and_eq_true] at h
  exact h.1.1.1.2

/-- captype.Retype: the error -/
def retErr (c : Cap) (obj bits level width off cnt : Int) : Int :=
  if capOk c = false ∨ c.kind ≠ 1 then 5
  else if iop .and .i64 c.rights 2 = 0 then 8
  else if sizeOk obj bits = false ∨ (obj = 3 ∧ formOk width level = false) ∨ cnt < 1 ∨ 8 < cnt ∨ off < 0 then 1
  else if c.device = true ∧ obj ≠ 1 ∧ obj ≠ 2 then 5
  else if off % 2 ^ bits.toNat ≠ 0 ∨ 2 ^ c.bits.toNat - cnt * 2 ^ bits.toNat < off ∨ (obj = 1 ∧ c.bits ≤ bits) then 6
  else 0

/-- captype.Retype: the capabilities -/
def retCells (c : Cap) (obj bits level width off cnt : Int) : List (List AV) :=
  if retErr c obj bits level width off cnt = 0 then newCells obj (c.base + off) (2 ^ bits.toNat) bits c.rights (if obj = 3 then width else 0) (if obj = 3 then level else 0) c.device cnt.toNat else []

theorem ret_bad {c : Cap} {obj bits level width off cnt e : Int} (he : e ≠ 0) (h : retErr c obj bits level width off cnt = e) :
    some (([] : List (List AV)), e) = some (retCells c obj bits level width off cnt, retErr c obj bits level width off cnt) := by
  simp only [retCells, h, if_neg he]

/-- What the numbers come to where all is well. -/
theorem ret_nums {c : Cap} {obj bits off cnt : Int} (hc : capOk c = true) (hs : sizeOk obj bits = true) (h1 : 1 ≤ cnt) (h2 : cnt ≤ 8) (h3 : 0 ≤ off) :
    iop .shl .i64 1 bits = 2 ^ bits.toNat ∧ iop .rem .i64 off (2 ^ bits.toNat) = off % 2 ^ bits.toNat ∧ iop .shl .i64 1 c.bits = 2 ^ c.bits.toNat ∧ iop .mul .i64 cnt (2 ^ bits.toNat) = cnt * 2 ^ bits.toNat ∧
      iop .sub .i64 (2 ^ c.bits.toNat) (cnt * 2 ^ bits.toNat) = 2 ^ c.bits.toNat - cnt * 2 ^ bits.toNat ∧ (2 : Int) ^ bits.toNat ≠ 0 ∧ 0 ≤ bits ∧ 0 ≤ c.bits ∧ 0 ≤ c.base ∧ c.base + 2 ^ c.bits.toNat ≤ 1099511627776 ∧
      0 < (2 : Int) ^ bits.toNat ∧ (2 : Int) ^ bits.toNat ≤ 1099511627776 ∧ (2 : Int) ^ bits.toNat ≤ cnt * 2 ^ bits.toNat ∧ 0 < (2 : Int) ^ c.bits.toNat ∧ bits ≤ 40 ∧ c.bits ≤ 40 := by
  obtain ⟨b1, b2⟩ := size_rng hs
  obtain ⟨r1, r2, r3, r4, r5⟩ := rngOk_of (cap_rng hc)
  have p1 := pow_pos2 bits.toNat
  have p2 := pow_pos2 c.bits.toNat
  have q1 := pow_hi b2
  have q2 := pow_hi r2
  have m1 : cnt * 2 ^ bits.toNat ≤ 8 * 2 ^ bits.toNat := Int.mul_le_mul_of_nonneg_right (by omega) (by omega)
  have m2 : 1 * 2 ^ bits.toNat ≤ cnt * 2 ^ bits.toNat := Int.mul_le_mul_of_nonneg_right (by omega) (by omega)
  refine ⟨shl1 (by omega), rem_pow (by omega), shl1 (by omega), mul_i (by omega) (by omega), sub_i (by omega) (by omega), by omega, by omega, by omega, r3, r5, p1, q1, by omega, p2, b2, r2⟩

theorem reqK_id {γ : Type} {p : Prop} (h : p) : (reqK p : Option γ → Option γ) = fun x => x := funext fun x => reqK_pos h x

theorem s20 (k b s r w l : Int) (d : Bool) (obj bits level width off cnt : Int) : g20 k b s r w l d obj bits level width off cnt =
    some (retCells ⟨k, b, s, r, w, l, d⟩ obj bits level width off cnt, retErr ⟨k, b, s, r, w, l, d⟩ obj bits level width off cnt) := by
  rw [g20_eq]
  simp only [s28, s67, s68, Option.bind_some]
  by_cases hh : capOk ⟨k, b, s, r, w, l, d⟩ = true ∧ k = 1 ∧ iop .and .i64 r 2 ≠ 0 ∧ sizeOk obj bits = true ∧ (obj = 3 → formOk width level = true) ∧ 1 ≤ cnt ∧ cnt ≤ 8 ∧ 0 ≤ off
  · obtain ⟨h1, rfl, h3, h4, h5, h6, h7, h8⟩ := hh
    obtain ⟨n1, n2, n3, n4, n5, n6, n7, n8, n9, n10, n11, n12, n13, n14, n15, n16⟩ := ret_nums h1 h4 h6 h7 h8
    have q1 : (reqK ((0 : Int) ≤ bits) : Option (List (List AV) × Int) → _) = fun x => x := reqK_id n7
    have q2 : (reqK ((2 : Int) ^ bits.toNat ≠ 0) : Option (List (List AV) × Int) → _) = fun x => x := reqK_id n6
    have q3 : (reqK ((0 : Int) ≤ s) : Option (List (List AV) × Int) → _) = fun x => x := reqK_id n8
    simp only at n3 n5
    have loop : ∀ lv wd, off + cnt * 2 ^ bits.toNat ≤ 2 ^ s.toNat → g20L0 FUEL obj bits lv wd off 1 b s r w l d (2 ^ bits.toNat) [] cnt 0 = some (newCells obj (b + off) (2 ^ bits.toNat) bits r wd lv d cnt.toNat, 0) := by
      intro lv wd hle
      have := l20 (k := 1) (s := s) (r := r) (w := w) (l := l) (d := d) (lv := lv) (wd := wd) (bits := bits) (obj := obj) (cnt := cnt) n9 h8 (Int.le_of_lt n11) h7 (show b + off + 8 * 2 ^ bits.toNat < 2 ^ 62 by
        have e62 : (2 : Int) ^ 62 = 4611686018427387904 := by decide
        simp only at n10
        omega) cnt.toNat 0 FUEL (by omega) (fuel_lt (by omega))
      exact this
    have hR : retErr ⟨1, b, s, r, w, l, d⟩ obj bits level width off cnt = if d = true ∧ obj ≠ 1 ∧ obj ≠ 2 then 5 else if off % 2 ^ bits.toNat ≠ 0 ∨ 2 ^ s.toNat - cnt * 2 ^ bits.toNat < off ∨ (obj = 1 ∧ s ≤ bits) then 6 else 0 := by
      rw [retErr, if_neg (by simp [h1]), if_neg h3, if_neg (by
        rintro (h | ⟨h, h'⟩ | h | h | h)
        · rw [h4] at h; cases h
        · rw [h5 h] at h'; cases h'
        · omega
        · omega
        · omega)]
    have hk1 : cop .neq (1 : Int) 1 = false := rfl
    simp only [n1, n2, n3, n4, n5, q1, q2, q3, h1, h4, hk1, Bool.not_true, Bool.false_eq_true, if_false]
    clear n1 n2 n3 n4 n5 q1 q2 q3
    by_cases e5 : d = true ∧ obj ≠ 1 ∧ obj ≠ 2
    · rw [if_pos e5] at hR
      obtain ⟨hd, e1, e2⟩ := e5
      repeat' (with_reducible refine ite_goal (fun _ => ?_) (fun _ => ?_))
      all_goals first
        | exact ret_bad (by decide) hR
        | (exfalso; simp only [cop_lss_t, cop_lss_f, cop_leq_t, cop_leq_f, cop_gtr_t, cop_gtr_f, cop_geq_t, cop_geq_f, cop_eql_t, cop_eql_f, cop_neq_t, cop_neq_f, Bool.not_eq_true, Bool.not_eq_false, Bool.not_eq_true', Bool.not_eq_false', Bool.and_eq_true, Bool.or_eq_true, decide_eq_true_eq, decide_eq_false_iff_not, Bool.false_eq_true, Bool.true_eq_false, Option.bind_some, Option.some.injEq, false_iff, true_iff, iff_false, iff_true] at *; first | omega | grind)
    · rw [if_neg e5] at hR
      by_cases e6 : off % 2 ^ bits.toNat ≠ 0 ∨ 2 ^ s.toNat - cnt * 2 ^ bits.toNat < off ∨ (obj = 1 ∧ s ≤ bits)
      · rw [if_pos e6] at hR
        repeat' (with_reducible refine ite_goal (fun _ => ?_) (fun _ => ?_))
        all_goals first
          | exact ret_bad (by decide) hR
          | (exfalso; simp only [cop_lss_t, cop_lss_f, cop_leq_t, cop_leq_f, cop_gtr_t, cop_gtr_f, cop_geq_t, cop_geq_f, cop_eql_t, cop_eql_f, cop_neq_t, cop_neq_f, Bool.not_eq_true, Bool.not_eq_false, Bool.not_eq_true', Bool.not_eq_false', Bool.and_eq_true, Bool.or_eq_true, decide_eq_true_eq, decide_eq_false_iff_not, Bool.false_eq_true, Bool.true_eq_false, Option.bind_some, Option.some.injEq, false_iff, true_iff, iff_false, iff_true] at *; first | omega | grind)
      · rw [if_neg e6] at hR
        have hL : ∀ lv wd, g20L0 FUEL obj bits lv wd off 1 b s r w l d (2 ^ bits.toNat) [] cnt 0 = some (newCells obj (b + off) (2 ^ bits.toNat) bits r wd lv d cnt.toNat, 0) := fun lv wd => loop lv wd (by omega)
        simp only [hL, retCells, hR, if_true]
        repeat' (with_reducible refine ite_goal (fun _ => ?_) (fun _ => ?_))
        all_goals first
          | (simp only [cop_lss_t, cop_lss_f, cop_leq_t, cop_leq_f, cop_gtr_t, cop_gtr_f, cop_geq_t, cop_geq_f, cop_eql_t, cop_eql_f, cop_neq_t, cop_neq_f, Bool.not_eq_true, Bool.not_eq_false, Bool.not_eq_true', Bool.not_eq_false', Bool.and_eq_true, Bool.or_eq_true, decide_eq_true_eq, decide_eq_false_iff_not, Bool.false_eq_true, Bool.true_eq_false, Option.bind_some, Option.some.injEq, false_iff, true_iff, iff_false, iff_true] at *; rw [if_pos (by omega), if_pos (by omega)]; done)
          | (simp only [cop_lss_t, cop_lss_f, cop_leq_t, cop_leq_f, cop_gtr_t, cop_gtr_f, cop_geq_t, cop_geq_f, cop_eql_t, cop_eql_f, cop_neq_t, cop_neq_f, Bool.not_eq_true, Bool.not_eq_false, Bool.not_eq_true', Bool.not_eq_false', Bool.and_eq_true, Bool.or_eq_true, decide_eq_true_eq, decide_eq_false_iff_not, Bool.false_eq_true, Bool.true_eq_false, Option.bind_some, Option.some.injEq, false_iff, true_iff, iff_false, iff_true] at *; rw [if_neg (by omega), if_neg (by omega)]; done)
          | (exfalso; simp only [cop_lss_t, cop_lss_f, cop_leq_t, cop_leq_f, cop_gtr_t, cop_gtr_f, cop_geq_t, cop_geq_f, cop_eql_t, cop_eql_f, cop_neq_t, cop_neq_f, Bool.not_eq_true, Bool.not_eq_false, Bool.not_eq_true', Bool.not_eq_false', Bool.and_eq_true, Bool.or_eq_true, decide_eq_true_eq, decide_eq_false_iff_not, Bool.false_eq_true, Bool.true_eq_false, Option.bind_some, Option.some.injEq, false_iff, true_iff, iff_false, iff_true] at *; first | omega | grind)
  · repeat' (with_reducible refine ite_goal (fun _ => ?_) (fun _ => ?_))
    all_goals first
      | exact ret_bad (by decide) (by simp only [cop_lss_t, cop_lss_f, cop_leq_t, cop_leq_f, cop_gtr_t, cop_gtr_f, cop_geq_t, cop_geq_f, cop_eql_t, cop_eql_f, cop_neq_t, cop_neq_f, Bool.not_eq_true, Bool.not_eq_false, Bool.not_eq_true', Bool.not_eq_false', Bool.and_eq_true, Bool.or_eq_true, decide_eq_true_eq, decide_eq_false_iff_not, Bool.false_eq_true, Bool.true_eq_false, Option.bind_some, Option.some.injEq, false_iff, true_iff, iff_false, iff_true] at *; simp only [retErr]; grind)
      | (exfalso; simp only [cop_lss_t, cop_lss_f, cop_leq_t, cop_leq_f, cop_gtr_t, cop_gtr_f, cop_geq_t, cop_geq_f, cop_eql_t, cop_eql_f, cop_neq_t, cop_neq_f, Bool.not_eq_true, Bool.not_eq_false, Bool.not_eq_true', Bool.not_eq_false', Bool.and_eq_true, Bool.or_eq_true, decide_eq_true_eq, decide_eq_false_iff_not, Bool.false_eq_true, Bool.true_eq_false, Option.bind_some, Option.some.injEq, false_iff, true_iff, iff_false, iff_true] at *; grind)

theorem s21 (k b s r w l : Int) (d : Bool) (obj bits level width off cnt : Int) : g21 k b s r w l d obj bits level width off cnt =
    some (retCells ⟨k, b, s, r, w, l, d⟩ obj bits level width off cnt, retErr ⟨k, b, s, r, w, l, d⟩ obj bits level width off cnt) := by
  rw [g21_eq]
  simp only [s33, s69, s70, Option.bind_some]
  by_cases hh : capOk ⟨k, b, s, r, w, l, d⟩ = true ∧ k = 1 ∧ iop .and .i64 r 2 ≠ 0 ∧ sizeOk obj bits = true ∧ (obj = 3 → formOk width level = true) ∧ 1 ≤ cnt ∧ cnt ≤ 8 ∧ 0 ≤ off
  · obtain ⟨h1, rfl, h3, h4, h5, h6, h7, h8⟩ := hh
    obtain ⟨n1, n2, n3, n4, n5, n6, n7, n8, n9, n10, n11, n12, n13, n14, n15, n16⟩ := ret_nums h1 h4 h6 h7 h8
    have q1 : (reqK ((0 : Int) ≤ bits) : Option (List (List AV) × Int) → _) = fun x => x := reqK_id n7
    have q2 : (reqK ((2 : Int) ^ bits.toNat ≠ 0) : Option (List (List AV) × Int) → _) = fun x => x := reqK_id n6
    have hw1 : IntKind.wrap .u64 bits = bits := wrapu_of n7 (by omega)
    have hw2 : IntKind.wrap .u64 s = s := wrapu_of n8 (by simp only at n16; omega)
    have q3 : (reqK ((0 : Int) ≤ s) : Option (List (List AV) × Int) → _) = fun x => x := reqK_id n8
    simp only at n3 n5
    have loop : ∀ fl : Bool, off + cnt * 2 ^ bits.toNat ≤ 2 ^ s.toNat → g21L0 FUEL obj bits level width off cnt 1 b s r w l d fl (2 ^ bits.toNat) [] 0 = some (newCells obj (b + off) (2 ^ bits.toNat) bits r (if fl = true then width else 0) (if fl = true then level else 0) d cnt.toNat, 0) := by
      intro fl hle
      have := l21 (fl := fl) (k := 1) (s := s) (r := r) (w := w) (l := l) (d := d) (lv := level) (wd := width) (bits := bits) (obj := obj) (cnt := cnt) n9 h8 (Int.le_of_lt n11) h7 (show b + off + 8 * 2 ^ bits.toNat < 2 ^ 62 by
        have e62 : (2 : Int) ^ 62 = 4611686018427387904 := by decide
        simp only at n10
        omega) cnt.toNat 0 FUEL (by omega) (fuel_lt (by omega))
      exact this
    have n9' : 0 ≤ b := n9
    have n10' : b + 2 ^ s.toNat ≤ 1099511627776 := n10
    have n5' : off ≤ 2 ^ s.toNat → iop .sub .i64 (2 ^ s.toNat) off = 2 ^ s.toNat - off := fun h => sub_i (by omega) (by omega)
    have hR : retErr ⟨1, b, s, r, w, l, d⟩ obj bits level width off cnt = if d = true ∧ obj ≠ 1 ∧ obj ≠ 2 then 5 else if off % 2 ^ bits.toNat ≠ 0 ∨ 2 ^ s.toNat - cnt * 2 ^ bits.toNat < off ∨ (obj = 1 ∧ s ≤ bits) then 6 else 0 := by
      rw [retErr, if_neg (by simp [h1]), if_neg h3, if_neg (by
        rintro (h | ⟨h, h'⟩ | h | h | h)
        · rw [h4] at h; cases h
        · rw [h5 h] at h'; cases h'
        · omega
        · omega
        · omega)]
    have hk1 : cop .neq (1 : Int) 1 = false := rfl
    simp only [hw1, hw2, n1, n2, n3, n4, q1, q2, q3, h1, h4, hk1, Bool.not_true, Bool.false_eq_true, if_false]
    clear n1 n2 n3 n4 n5 q1 q2 q3
    by_cases e5 : d = true ∧ obj ≠ 1 ∧ obj ≠ 2
    · rw [if_pos e5] at hR
      obtain ⟨hd, e1, e2⟩ := e5
      repeat' (with_reducible refine ite_goal (fun _ => ?_) (fun _ => ?_))
      all_goals first
        | exact ret_bad (by decide) hR
        | (exfalso; simp only [cop_lss_t, cop_lss_f, cop_leq_t, cop_leq_f, cop_gtr_t, cop_gtr_f, cop_geq_t, cop_geq_f, cop_eql_t, cop_eql_f, cop_neq_t, cop_neq_f, Bool.not_eq_true, Bool.not_eq_false, Bool.not_eq_true', Bool.not_eq_false', Bool.and_eq_true, Bool.or_eq_true, decide_eq_true_eq, decide_eq_false_iff_not, Bool.false_eq_true, Bool.true_eq_false, Option.bind_some, Option.some.injEq, false_iff, true_iff, iff_false, iff_true] at *; first | omega | grind)
    · rw [if_neg e5] at hR
      by_cases e6 : off % 2 ^ bits.toNat ≠ 0 ∨ 2 ^ s.toNat - cnt * 2 ^ bits.toNat < off ∨ (obj = 1 ∧ s ≤ bits)
      · rw [if_pos e6] at hR
        repeat' (with_reducible refine ite_goal (fun _ => ?_) (fun _ => ?_))
        all_goals first
          | exact ret_bad (by decide) hR
          | (exfalso; simp only [cop_lss_t, cop_lss_f, cop_leq_t, cop_leq_f, cop_gtr_t, cop_gtr_f, cop_geq_t, cop_geq_f, cop_eql_t, cop_eql_f, cop_neq_t, cop_neq_f, Bool.not_eq_true, Bool.not_eq_false, Bool.not_eq_true', Bool.not_eq_false', Bool.and_eq_true, Bool.or_eq_true, decide_eq_true_eq, decide_eq_false_iff_not, Bool.false_eq_true, Bool.true_eq_false, Option.bind_some, Option.some.injEq, false_iff, true_iff, iff_false, iff_true] at *; rw [n5' (by omega)] at *; first | omega | grind)
          | (exfalso; simp only [cop_lss_t, cop_lss_f, cop_leq_t, cop_leq_f, cop_gtr_t, cop_gtr_f, cop_geq_t, cop_geq_f, cop_eql_t, cop_eql_f, cop_neq_t, cop_neq_f, Bool.not_eq_true, Bool.not_eq_false, Bool.not_eq_true', Bool.not_eq_false', Bool.and_eq_true, Bool.or_eq_true, decide_eq_true_eq, decide_eq_false_iff_not, Bool.false_eq_true, Bool.true_eq_false, Option.bind_some, Option.some.injEq, false_iff, true_iff, iff_false, iff_true] at *; first | omega | grind)
      · rw [if_neg e6] at hR
        have hL : ∀ fl, g21L0 FUEL obj bits level width off cnt 1 b s r w l d fl (2 ^ bits.toNat) [] 0 = some (newCells obj (b + off) (2 ^ bits.toNat) bits r (if fl = true then width else 0) (if fl = true then level else 0) d cnt.toNat, 0) := fun fl => loop fl (by omega)
        have n5 := n5' (by omega)
        simp only [hL, retCells, hR, if_true, n5]
        have hfl : (cop .eql obj 3 = true) = (obj = 3) := by simp only [cop_lss_t, cop_lss_f, cop_leq_t, cop_leq_f, cop_gtr_t, cop_gtr_f, cop_geq_t, cop_geq_f, cop_eql_t, cop_eql_f, cop_neq_t, cop_neq_f, Bool.not_eq_true, Bool.not_eq_false, Bool.not_eq_true', Bool.not_eq_false', Bool.and_eq_true, Bool.or_eq_true, decide_eq_true_eq, decide_eq_false_iff_not, Bool.false_eq_true, Bool.true_eq_false, Option.bind_some, Option.some.injEq, false_iff, true_iff, iff_false, iff_true]
        simp only [hfl]
        repeat' (with_reducible refine ite_goal (fun _ => ?_) (fun _ => ?_))
        all_goals first
          | rfl
          | (exfalso; simp only [cop_lss_t, cop_lss_f, cop_leq_t, cop_leq_f, cop_gtr_t, cop_gtr_f, cop_geq_t, cop_geq_f, cop_eql_t, cop_eql_f, cop_neq_t, cop_neq_f, Bool.not_eq_true, Bool.not_eq_false, Bool.not_eq_true', Bool.not_eq_false', Bool.and_eq_true, Bool.or_eq_true, decide_eq_true_eq, decide_eq_false_iff_not, Bool.false_eq_true, Bool.true_eq_false, Option.bind_some, Option.some.injEq, false_iff, true_iff, iff_false, iff_true] at *; first | omega | grind)
  · repeat' (with_reducible refine ite_goal (fun _ => ?_) (fun _ => ?_))
    all_goals first
      | exact ret_bad (by decide) (by simp only [cop_lss_t, cop_lss_f, cop_leq_t, cop_leq_f, cop_gtr_t, cop_gtr_f, cop_geq_t, cop_geq_f, cop_eql_t, cop_eql_f, cop_neq_t, cop_neq_f, Bool.not_eq_true, Bool.not_eq_false, Bool.not_eq_true', Bool.not_eq_false', Bool.and_eq_true, Bool.or_eq_true, decide_eq_true_eq, decide_eq_false_iff_not, Bool.false_eq_true, Bool.true_eq_false, Option.bind_some, Option.some.injEq, false_iff, true_iff, iff_false, iff_true] at *; simp only [retErr]; grind)
      | (exfalso; simp only [cop_lss_t, cop_lss_f, cop_leq_t, cop_leq_f, cop_gtr_t, cop_gtr_f, cop_geq_t, cop_geq_f, cop_eql_t, cop_eql_f, cop_neq_t, cop_neq_f, Bool.not_eq_true, Bool.not_eq_false, Bool.not_eq_true', Bool.not_eq_false', Bool.and_eq_true, Bool.or_eq_true, decide_eq_true_eq, decide_eq_false_iff_not, Bool.false_eq_true, Bool.true_eq_false, Option.bind_some, Option.some.injEq, false_iff, true_iff, iff_false, iff_true] at *; grind)

end Go.Proofs.Ytjfhdhplmibnfaa
end

section
namespace Go.Proofs.Ytjfhdhplmibnfaa
open Go Go.AM
set_option linter.unusedSimpArgs false
set_option linter.unusedVariables false

abbrev capSh : List Sh := [.int .i64, .int .i64, .int .i64, .int .i64, .int .i64, .int .i64, .bool]

/-- The element i of what Retype made. -/
theorem elem_new {γ : Type} {obj a sz bits r w l : Int} {d : Bool} {n : Nat} {i : Int} (k : (Int × Int × Int × Int × Int × Int × Bool) → Option γ) (h0 : 0 ≤ i) (h1 : i.toNat < n) :
    elemK (newCells obj a sz bits r w l d n) i capSh k = k (obj, a + i * sz, bits, r, w, l, d) := by
  have hi : ((i.toNat : Nat) : Int) = i := by omega
  refine elemK_at (sh := capSh) k h0 (newCells_at obj a sz bits r w l d n i.toNat h1) (r := (obj, a + i * sz, bits, r, w, l, d)) ?_
  simp only [newCell, hi]
  rfl

theorem s23 : g23 = some true := by
  rw [g23_eq, s20]
  have he : retErr ⟨1, 0, 14, 7, 0, 0, false⟩ 3 12 0 32 4096 2 = 0 := by decide
  have hc : retCells ⟨1, 0, 14, 7, 0, 0, false⟩ 3 12 0 32 4096 2 = newCells 3 4096 4096 12 7 32 0 false 2 := by
    simp only [retCells, he, if_true]
    rfl
  simp only [he, hc, Option.bind_some, newCells_len]
  rw [if_pos (by decide), if_pos (by decide), elem_new _ (by decide) (by decide), if_pos (by decide), elem_new _ (by decide) (by decide), if_pos (by decide), elem_new _ (by decide) (by decide), s28]
  decide

theorem l22 {xs : List (List AV)} (hl : xs.length < 2 ^ 62) (hx : ∀ x ∈ xs, ∃ r, ofEs capSh x = some r) : ∀ (j i fuel : Nat), xs.length = i + j → j < fuel → g22L0 fuel xs xs i = some true := by
  intro j
  induction j with
  | zero =>
    intro i fuel h hf
    obtain ⟨f, rfl⟩ : ∃ f, fuel = f + 1 := ⟨fuel - 1, by omega⟩
    rw [g22L0_eq, if_neg (by simp only [cop_lss_t, cop_lss_f, cop_leq_t, cop_leq_f, cop_gtr_t, cop_gtr_f, cop_geq_t, cop_geq_f, cop_eql_t, cop_eql_f, cop_neq_t, cop_neq_f, Bool.not_eq_true, Bool.not_eq_false, Bool.not_eq_true', Bool.not_eq_false', Bool.and_eq_true, Bool.or_eq_true, decide_eq_true_eq, decide_eq_false_iff_not, Bool.false_eq_true, Bool.true_eq_false, Option.bind_some, Option.some.injEq, false_iff, true_iff, iff_false, iff_true]; omega)]
  | succ j ih =>
    intro i fuel h hf
    obtain ⟨f, rfl⟩ : ∃ f, fuel = f + 1 := ⟨fuel - 1, by omega⟩
    have hi : i < xs.length := by omega
    obtain ⟨r, hr⟩ := hx xs[i] (List.getElem_mem hi)
    have hat : xs[(i : Int).toNat]? = some xs[i] := by simp
    have a4 : iop .add .i64 i 1 = ((i + 1 : Nat) : Int) := by rw [add_i (by omega) (by omega)]; omega
    rw [g22L0_eq, if_pos (by simp only [cop_lss_t, cop_lss_f, cop_leq_t, cop_leq_f, cop_gtr_t, cop_gtr_f, cop_geq_t, cop_geq_f, cop_eql_t, cop_eql_f, cop_neq_t, cop_neq_f, Bool.not_eq_true, Bool.not_eq_false, Bool.not_eq_true', Bool.not_eq_false', Bool.and_eq_true, Bool.or_eq_true, decide_eq_true_eq, decide_eq_false_iff_not, Bool.false_eq_true, Bool.true_eq_false, Option.bind_some, Option.some.injEq, false_iff, true_iff, iff_false, iff_true]; omega), elemK_at _ (by omega) hat hr, elemK_at _ (by omega) hat hr, if_neg (by simp [cop]), a4]
    exact ih (i + 1) f (by omega) (by omega)

theorem s22 {xs : List (List AV)} (hl : xs.length < 2 ^ 62) (hx : ∀ x ∈ xs, ∃ r, ofEs capSh x = some r) : g22 xs xs = some true := by
  rw [g22_eq, if_neg (by simp [cop])]
  exact l22 hl hx xs.length 0 FUEL (by omega) (fuel_lt (by omega))

theorem ofEs_new (obj a sz bits r w l : Int) (d : Bool) (j : Nat) : ofEs capSh (newCell obj a sz bits r w l d j) = some (obj, a + j * sz, bits, r, w, l, d) := rfl

theorem ofEs_newCells {obj a sz bits r w l : Int} {d : Bool} {n : Nat} {x : List AV} (h : x ∈ newCells obj a sz bits r w l d n) : ∃ r, ofEs capSh x = some r := by
  obtain ⟨j, _, rfl⟩ := List.mem_map.1 h
  exact ⟨_, ofEs_new ..⟩

theorem ret_good {c : Cap} {obj bits level width off cnt : Int} (h : retErr c obj bits level width off cnt = 0) :
    capOk c = true ∧ c.kind = 1 ∧ iop .and .i64 c.rights 2 ≠ 0 ∧ sizeOk obj bits = true ∧ (obj = 3 → formOk width level = true) ∧ 1 ≤ cnt ∧ cnt ≤ 8 ∧ 0 ≤ off ∧ (c.device = true → obj = 1 ∨ obj = 2) ∧
      off % 2 ^ bits.toNat = 0 ∧ off ≤ 2 ^ c.bits.toNat - cnt * 2 ^ bits.toNat ∧ (obj = 1 → bits < c.bits) := by
  unfold retErr at h
  split at h
  · cases h
  split at h
  · cases h
  split at h
  · cases h
  split at h
  · cases h
  split at h
  · cases h
  rename_i h1 h2 h3 h4 h5
  refine ⟨?_, ?_, h2, ?_, ?_, ?_, ?_, ?_, ?_, ?_, ?_, ?_⟩ <;> grind

theorem ret_cells {c : Cap} {obj bits level width off cnt : Int} : ∃ a r w l d n, n < 2 ^ 30 ∧ retCells c obj bits level width off cnt = newCells obj a (2 ^ bits.toNat) bits r w l d n := by
  by_cases h : retErr c obj bits level width off cnt = 0
  · obtain ⟨_, _, _, _, _, _, h7, _⟩ := ret_good h
    simp only [retCells, h, if_true]
    exact ⟨_, _, _, _, _, cnt.toNat, by omega, rfl⟩
  · simp only [retCells, if_neg h]
    exact ⟨0, 0, 0, 0, false, 0, by omega, rfl⟩

theorem s3 (k b s r w l : Int) (d : Bool) (obj bits level width off cnt : Int) : g3 k b s r w l d obj bits level width off cnt = some true := by
  rw [g3_eq, s20, s21]
  obtain ⟨a, r', w', l', d', n, hn, hc⟩ := ret_cells (c := ⟨k, b, s, r, w, l, d⟩) (obj := obj) (bits := bits) (level := level) (width := width) (off := off) (cnt := cnt)
  simp only [Option.bind_some, hc]
  rw [s22 (by rw [newCells_len]; omega) (fun x hx => ofEs_newCells hx)]
  simp only [Option.bind_some]
  rw [if_pos trivial, if_pos (by simp [cop]), s23]
  rfl

theorem shl_i {a b : Int} (h0 : 0 ≤ b) (h1 : b ≤ 62) (h2 : 0 ≤ a) (h3 : a * 2 ^ b.toNat < 2 ^ 63) : iop .shl .i64 a b = a * 2 ^ b.toNat := by
  have hmin : min b.toNat IntKind.i64.bits = b.toNat := by
    have : IntKind.i64.bits = 64 := rfl
    omega
  simp only [iop, hmin]
  have hp := pow_pos2 b.toNat
  have : 0 ≤ a * 2 ^ b.toNat := Int.mul_nonneg h2 (by omega)
  rw [wrap_of (by omega) h3]

/-- One by one, Retype makes what it makes at once. -/
theorem ret_one {c : Cap} {obj bits level width off cnt : Int} (h : retErr c obj bits level width off cnt = 0) {i : Nat} (hi : (i : Int) < cnt) : retErr c obj bits level width (off + i * 2 ^ bits.toNat) 1 = 0 := by
  obtain ⟨h1, h2, h3, h4, h5, h6, h7, h8, h9, h10, h11, h12⟩ := ret_good h
  have hp := pow_pos2 bits.toNat
  have m0 : 0 ≤ (i : Int) * 2 ^ bits.toNat := Int.mul_nonneg (by omega) (by omega)
  have m1 : ((i : Int) + 1) * 2 ^ bits.toNat ≤ cnt * 2 ^ bits.toNat := Int.mul_le_mul_of_nonneg_right (by omega) (by omega)
  have m2 : ((i : Int) + 1) * 2 ^ bits.toNat = i * 2 ^ bits.toNat + 2 ^ bits.toNat := by rw [Int.add_mul, Int.one_mul]
  have hmod : (off + i * 2 ^ bits.toNat) % 2 ^ bits.toNat = 0 := by rw [Int.add_mul_emod_self_right]; exact h10
  rw [retErr, if_neg (by simp [h1, h2]), if_neg h3, if_neg (by
    rintro (h | ⟨h, h'⟩ | h | h | h)
    · rw [h4] at h; cases h
    · rw [h5 h] at h'; cases h'
    · omega
    · omega
    · omega), if_neg (by rintro ⟨h, h', h''⟩; rcases h9 h with h | h <;> omega), if_neg (by
    rintro (h | h | ⟨h, h'⟩)
    · exact h hmod
    · omega
    · have := h12 h; omega)]

theorem l4 {k b s r w l : Int} {d : Bool} {obj bits level width off cnt : Int} (h : retErr ⟨k, b, s, r, w, l, d⟩ obj bits level width off cnt = 0) : ∀ (j i fuel : Nat), cnt = i + j → j < fuel →
    g4L0 fuel obj bits level width off cnt k b s r w l d (retCells ⟨k, b, s, r, w, l, d⟩ obj bits level width off cnt) i = some true := by
  obtain ⟨h1, h2, h3, h4, h5, h6, h7, h8, h9, h10, h11, h12⟩ := ret_good h
  obtain ⟨n1, n2, n3, n4, n5, n6, n7, n8, n9, n10, n11, n12, n13, n14, n15, n16⟩ := ret_nums h1 h4 h6 h7 h8
  have n9' : 0 ≤ b := n9
  have n10' : b + 2 ^ s.toNat ≤ 1099511627776 := n10
  have h11' : off ≤ 2 ^ s.toNat - cnt * 2 ^ bits.toNat := h11
  have hcells : retCells ⟨k, b, s, r, w, l, d⟩ obj bits level width off cnt = newCells obj (b + off) (2 ^ bits.toNat) bits r (if obj = 3 then width else 0) (if obj = 3 then level else 0) d cnt.toNat := by simp only [retCells, h, if_true]
  intro j
  induction j with
  | zero =>
    intro i fuel hi hf
    obtain ⟨f, rfl⟩ : ∃ f, fuel = f + 1 := ⟨fuel - 1, by omega⟩
    have he : retErr ⟨k, b, s, r, w, l, d⟩ obj bits level width off 0 = 1 := by
      rw [retErr, if_neg (by simp only [h1, Bool.true_eq_false, false_or]; exact fun hn => hn h2), if_neg h3, if_pos (.inr (.inr (.inl (by omega))))]
    rw [g4L0_eq, if_neg (by simp only [cop_lss_t, cop_lss_f, cop_leq_t, cop_leq_f, cop_gtr_t, cop_gtr_f, cop_geq_t, cop_geq_f, cop_eql_t, cop_eql_f, cop_neq_t, cop_neq_f, Bool.not_eq_true, Bool.not_eq_false, Bool.not_eq_true', Bool.not_eq_false', Bool.and_eq_true, Bool.or_eq_true, decide_eq_true_eq, decide_eq_false_iff_not, Bool.false_eq_true, Bool.true_eq_false, Option.bind_some, Option.some.injEq, false_iff, true_iff, iff_false, iff_true, hcells, newCells_len]; omega), s20]
    simp only [Option.bind_some, he, hcells, newCells_len]
    rw [if_pos (by simp only [cop_lss_t, cop_lss_f, cop_leq_t, cop_leq_f, cop_gtr_t, cop_gtr_f, cop_geq_t, cop_geq_f, cop_eql_t, cop_eql_f, cop_neq_t, cop_neq_f, Bool.not_eq_true, Bool.not_eq_false, Bool.not_eq_true', Bool.not_eq_false', Bool.and_eq_true, Bool.or_eq_true, decide_eq_true_eq, decide_eq_false_iff_not, Bool.false_eq_true, Bool.true_eq_false, Option.bind_some, Option.some.injEq, false_iff, true_iff, iff_false, iff_true]; omega), if_pos (by decide), s23]
    rfl
  | succ j ih =>
    intro i fuel hi hf
    obtain ⟨f, rfl⟩ : ∃ f, fuel = f + 1 := ⟨fuel - 1, by omega⟩
    have hp := pow_pos2 bits.toNat
    have m0 : 0 ≤ (i : Int) * 2 ^ bits.toNat := Int.mul_nonneg (by omega) (by omega)
    have m1 : ((i : Int)) * 2 ^ bits.toNat ≤ cnt * 2 ^ bits.toNat := Int.mul_le_mul_of_nonneg_right (by omega) (by omega)
    have e63 : (2 : Int) ^ 63 = 9223372036854775808 := by decide
    have a1 : IntKind.wrap .u64 bits = bits := wrapu_of n7 (by omega)
    have a2 : iop .shl .i64 i bits = i * 2 ^ bits.toNat := shl_i n7 (by omega) (by omega) (by omega)
    have a3 : iop .add .i64 off (i * 2 ^ bits.toNat) = off + i * 2 ^ bits.toNat := add_i (by omega) (by omega)
    have a4 : iop .add .i64 i 1 = ((i + 1 : Nat) : Int) := by rw [add_i (by omega) (by omega)]; omega
    have he := ret_one h (i := i) (by omega)
    have hone : retCells ⟨k, b, s, r, w, l, d⟩ obj bits level width (off + i * 2 ^ bits.toNat) 1 = newCells obj (b + (off + i * 2 ^ bits.toNat)) (2 ^ bits.toNat) bits r (if obj = 3 then width else 0) (if obj = 3 then level else 0) d 1 := by
      simp only [retCells, he, if_true]
      rfl
    rw [g4L0_eq, if_pos (by simp only [cop_lss_t, cop_lss_f, cop_leq_t, cop_leq_f, cop_gtr_t, cop_gtr_f, cop_geq_t, cop_geq_f, cop_eql_t, cop_eql_f, cop_neq_t, cop_neq_f, Bool.not_eq_true, Bool.not_eq_false, Bool.not_eq_true', Bool.not_eq_false', Bool.and_eq_true, Bool.or_eq_true, decide_eq_true_eq, decide_eq_false_iff_not, Bool.false_eq_true, Bool.true_eq_false, Option.bind_some, Option.some.injEq, false_iff, true_iff, iff_false, iff_true, hcells, newCells_len]; omega), a1, reqK_pos n7, a2, a3, s20, a4]
    simp only [Option.bind_some, he, hone, newCells_len]
    rw [if_neg (by decide), if_neg (by decide), elem_new _ (by decide) (by decide), hcells, elem_new _ (by omega) (by omega), if_neg (by simp [cop]; omega)]
    have := ih (i + 1) f (by omega) (by omega)
    rw [hcells] at this
    exact this

theorem s4 (k b s r w l : Int) (d : Bool) (obj bits level width off cnt : Int) : g4 k b s r w l d obj bits level width off cnt = some true := by
  rw [g4_eq, s20]
  simp only [Option.bind_some]
  by_cases h : retErr ⟨k, b, s, r, w, l, d⟩ obj bits level width off cnt = 0
  · rw [if_neg (by simp only [cop_lss_t, cop_lss_f, cop_leq_t, cop_leq_f, cop_gtr_t, cop_gtr_f, cop_geq_t, cop_geq_f, cop_eql_t, cop_eql_f, cop_neq_t, cop_neq_f, Bool.not_eq_true, Bool.not_eq_false, Bool.not_eq_true', Bool.not_eq_false', Bool.and_eq_true, Bool.or_eq_true, decide_eq_true_eq, decide_eq_false_iff_not, Bool.false_eq_true, Bool.true_eq_false, Option.bind_some, Option.some.injEq, false_iff, true_iff, iff_false, iff_true, h]; decide)]
    obtain ⟨h1, h2, h3, h4, h5, h6, h7, h8, h9, h10, h11, h12⟩ := ret_good h
    exact l4 h cnt.toNat 0 FUEL (by omega) (fuel_lt (by omega))
  · rw [if_pos (by simp only [cop_lss_t, cop_lss_f, cop_leq_t, cop_leq_f, cop_gtr_t, cop_gtr_f, cop_geq_t, cop_geq_f, cop_eql_t, cop_eql_f, cop_neq_t, cop_neq_f, Bool.not_eq_true, Bool.not_eq_false, Bool.not_eq_true', Bool.not_eq_false', Bool.and_eq_true, Bool.or_eq_true, decide_eq_true_eq, decide_eq_false_iff_not, Bool.false_eq_true, Bool.true_eq_false, Option.bind_some, Option.some.injEq, false_iff, true_iff, iff_false, iff_true]; exact h)]
    simp only [retCells, if_neg h]
    rw [if_pos (by decide), s23]
    rfl

/-- multikernelmake.Place -/
theorem s24 (x n : Int) (h1 : 1 ≤ n) (h2 : n < 2 ^ 62) : g24 x n = some (x % n) := by
  have e62 : (2 : Int) ^ 62 = 4611686018427387904 := by decide
  have hm0 := Int.emod_nonneg x (show n ≠ 0 by omega)
  have hm1 := Int.emod_lt_of_pos x (show 0 < n by omega)
  have ht : iop .rem .i64 x n = x.tmod n := rfl
  rw [g24_eq, if_neg (by simp only [cop_lss_t, cop_lss_f, cop_leq_t, cop_leq_f, cop_gtr_t, cop_gtr_f, cop_geq_t, cop_geq_f, cop_eql_t, cop_eql_f, cop_neq_t, cop_neq_f, Bool.not_eq_true, Bool.not_eq_false, Bool.not_eq_true', Bool.not_eq_false', Bool.and_eq_true, Bool.or_eq_true, decide_eq_true_eq, decide_eq_false_iff_not, Bool.false_eq_true, Bool.true_eq_false, Option.bind_some, Option.some.injEq, false_iff, true_iff, iff_false, iff_true]; omega), reqK_pos (by omega), ht]
  have := Int.tmod_eq_emod (a := x) (b := n)
  by_cases hd : 0 ≤ x ∨ n ∣ x
  · rw [if_pos hd] at this
    rw [if_neg (by simp only [cop_lss_t, cop_lss_f, cop_leq_t, cop_leq_f, cop_gtr_t, cop_gtr_f, cop_geq_t, cop_geq_f, cop_eql_t, cop_eql_f, cop_neq_t, cop_neq_f, Bool.not_eq_true, Bool.not_eq_false, Bool.not_eq_true', Bool.not_eq_false', Bool.and_eq_true, Bool.or_eq_true, decide_eq_true_eq, decide_eq_false_iff_not, Bool.false_eq_true, Bool.true_eq_false, Option.bind_some, Option.some.injEq, false_iff, true_iff, iff_false, iff_true]; omega)]
    congr 1
    omega
  · rw [if_neg hd] at this
    have habs : ((n.natAbs : Nat) : Int) = n := by omega
    have hne : x % n ≠ 0 := fun h => hd (.inr (Int.dvd_of_emod_eq_zero h))
    rw [if_pos (by simp only [cop_lss_t, cop_lss_f, cop_leq_t, cop_leq_f, cop_gtr_t, cop_gtr_f, cop_geq_t, cop_geq_f, cop_eql_t, cop_eql_f, cop_neq_t, cop_neq_f, Bool.not_eq_true, Bool.not_eq_false, Bool.not_eq_true', Bool.not_eq_false', Bool.and_eq_true, Bool.or_eq_true, decide_eq_true_eq, decide_eq_false_iff_not, Bool.false_eq_true, Bool.true_eq_false, Option.bind_some, Option.some.injEq, false_iff, true_iff, iff_false, iff_true]; omega), add_i (by omega) (by omega)]
    congr 1
    omega

end Go.Proofs.Ytjfhdhplmibnfaa
end

section
namespace Go.Proofs.Ytjfhdhplmibnfaa
open Go Go.AM
set_option linter.unusedSimpArgs false
set_option linter.unusedVariables false

theorem emod_rng (x n : Int) (h : 1 ≤ n) : 0 ≤ x % n ∧ x % n < n := ⟨Int.emod_nonneg x (by omega), Int.emod_lt_of_pos x (by omega)⟩

theorem mk_exp {b : Int} (h1 : 6 ≤ b) (h2 : b ≤ 20) : IntKind.wrap .u64 (iop .sub .i64 20 (iop .min .i64 b 20)) = 20 - b := by
  have hm : iop .min .i64 b 20 = b := by simp only [iop]; omega
  rw [hm, sub_i (by omega) (by omega), wrapu_of (by omega) (by omega)]

theorem pow_split {b : Int} (h1 : 0 ≤ b) (h2 : b ≤ 20) : (2 : Int) ^ (20 - b).toNat * 2 ^ b.toNat = 1048576 := by
  rw [← Int.pow_add, show (20 - b).toNat + b.toNat = 20 by omega]
  decide

/-- A place among the blocks of a size. -/
theorem mk_base (x : Int) {b : Int} (h1 : 6 ≤ b) (h2 : b ≤ 20) : ∃ m : Int, g24 x (iop .shl .i64 1 (20 - b)) = some m ∧ IntKind.wrap .u64 b = b ∧ iop .shl .i64 m b = m * 2 ^ b.toNat ∧ rngOk (m * 2 ^ b.toNat) b = true := by
  have hp := pow_pos2 (20 - b).toNat
  have hq := pow_pos2 b.toNat
  have hs := pow_split (b := b) (by omega) h2
  have hle : (2 : Int) ^ (20 - b).toNat ≤ 1048576 := by
    have := pow_le2 (m := (20 - b).toNat) (n := 20) (by omega)
    have e : (2 : Int) ^ 20 = 1048576 := by decide
    omega
  have e62 : (2 : Int) ^ 62 = 4611686018427387904 := by decide
  have e63 : (2 : Int) ^ 63 = 9223372036854775808 := by decide
  obtain ⟨r1, r2⟩ := emod_rng x (2 ^ (20 - b).toNat) (by omega)
  have m1 : (x % 2 ^ (20 - b).toNat + 1) * 2 ^ b.toNat ≤ 2 ^ (20 - b).toNat * 2 ^ b.toNat := Int.mul_le_mul_of_nonneg_right (by omega) (by omega)
  have m2 : (x % 2 ^ (20 - b).toNat + 1) * 2 ^ b.toNat = x % 2 ^ (20 - b).toNat * 2 ^ b.toNat + 2 ^ b.toNat := by rw [Int.add_mul, Int.one_mul]
  have m3 : 0 ≤ x % 2 ^ (20 - b).toNat * 2 ^ b.toNat := Int.mul_nonneg r1 (by omega)
  refine ⟨x % 2 ^ (20 - b).toNat, ?_, wrapu_of (by omega) (by omega), shl_i (by omega) (by omega) r1 (by omega), ?_⟩
  · rw [shl1 (by omega), s24 _ _ (by omega) (by omega)]
  · simp only [rngOk, decide_eq_true_eq]
    refine ⟨h1, by omega, m3, ?_, by omega⟩
    exact Int.mul_emod_left _ _

/-- multikernelmake.Cap makes a valid capability. -/
theorem s25 (x0 x1 x2 x3 x4 : Int) : ∃ c : Cap, capOk c = true ∧ g25 x0 x1 x2 x3 x4 = some (c.kind, c.base, c.bits, c.rights, c.width, c.level, c.device) := by
  obtain ⟨a1, a2⟩ := emod_rng x0 6 (by omega)
  obtain ⟨b1, b2⟩ := emod_rng x3 8 (by omega)
  rw [g25_eq, s24 x0 6 (by omega) (by omega), Option.bind_some, s24 x3 8 (by omega) (by omega), Option.bind_some]
  generalize x0 % 6 = r5 at *
  generalize x3 % 8 = r6 at *
  have e1 : iop .add .i64 1 r5 = 1 + r5 := add_i (by omega) (by omega)
  rw [e1]
  obtain ⟨c1, c2⟩ := emod_rng x4 4 (by omega)
  obtain ⟨d1, d2⟩ := emod_rng x2 15 (by omega)
  obtain ⟨f1, f2⟩ := emod_rng x2 9 (by omega)
  obtain ⟨g1, g2⟩ := emod_rng x4 2 (by omega)
  obtain ⟨h1, h2⟩ := emod_rng x4 3 (by omega)
  have p15 : iop .add .i64 6 (x2 % 15) = 6 + x2 % 15 := add_i (by omega) (by omega)
  have p9 : iop .add .i64 12 (x2 % 9) = 12 + x2 % 9 := add_i (by omega) (by omega)
  by_cases k1 : r5 = 0
  · subst k1
    obtain ⟨m, q1, q2, q3, q4⟩ := mk_base x1 (b := 6 + x2 % 15) (by omega) (by omega)
    refine ⟨⟨1, m * 2 ^ (6 + x2 % 15).toNat, 6 + x2 % 15, r6, 0, 0, cop .eql (x4 % 4) 3⟩, ?_, ?_⟩
    · simp only [capOk, q4, sizeOk]
      simp
      omega
    · rw [if_pos (by decide), s24 x2 15 (by omega) (by omega), Option.bind_some, s24 x4 4 (by omega) (by omega), Option.bind_some, p15, mk_exp (by omega) (by omega), reqK_pos (by omega), q1, Option.bind_some, q2, reqK_pos (by omega), q3]
      rfl
  rw [if_neg (by simp only [cop_lss_t, cop_lss_f, cop_leq_t, cop_leq_f, cop_gtr_t, cop_gtr_f, cop_geq_t, cop_geq_f, cop_eql_t, cop_eql_f, cop_neq_t, cop_neq_f, Bool.not_eq_true, Bool.not_eq_false, Bool.not_eq_true', Bool.not_eq_false', Bool.and_eq_true, Bool.or_eq_true, decide_eq_true_eq, decide_eq_false_iff_not, Bool.false_eq_true, Bool.true_eq_false, Option.bind_some, Option.some.injEq, false_iff, true_iff, iff_false, iff_true]; omega)]
  by_cases k2 : r5 = 1
  · subst k2
    obtain ⟨m, q1, q2, q3, q4⟩ := mk_base x1 (b := 12 + x2 % 9) (by omega) (by omega)
    refine ⟨⟨2, m * 2 ^ (12 + x2 % 9).toNat, 12 + x2 % 9, r6, 0, 0, cop .eql (x4 % 4) 3⟩, ?_, ?_⟩
    · simp only [capOk, q4, sizeOk]
      simp
      omega
    · rw [if_pos (by decide), s24 x2 9 (by omega) (by omega), Option.bind_some, s24 x4 4 (by omega) (by omega), Option.bind_some, p9, mk_exp (by omega) (by omega), reqK_pos (by omega), q1, Option.bind_some, q2, reqK_pos (by omega), q3]
      rfl
  rw [if_neg (by simp only [cop_lss_t, cop_lss_f, cop_leq_t, cop_leq_f, cop_gtr_t, cop_gtr_f, cop_geq_t, cop_geq_f, cop_eql_t, cop_eql_f, cop_neq_t, cop_neq_f, Bool.not_eq_true, Bool.not_eq_false, Bool.not_eq_true', Bool.not_eq_false', Bool.and_eq_true, Bool.or_eq_true, decide_eq_true_eq, decide_eq_false_iff_not, Bool.false_eq_true, Bool.true_eq_false, Option.bind_some, Option.some.injEq, false_iff, true_iff, iff_false, iff_true]; omega)]
  by_cases k3 : r5 = 2
  · subst k3
    obtain ⟨m, q1, q2, q3, q4⟩ := mk_base x1 (b := 12) (by omega) (by omega)
    rw [if_pos (by decide), s24 x4 2 (by omega) (by omega), Option.bind_some, s24 x2 2 (by omega) (by omega), Option.bind_some]
    by_cases k4 : x2 % 2 = 1
    · refine ⟨⟨3, m * 2 ^ (12 : Int).toNat, 12, r6, 39, x4 % 3, false⟩, ?_, ?_⟩
      · simp only [capOk, q4, sizeOk, formOk]
        simp
        omega
      · rw [if_pos (by simp only [cop_lss_t, cop_lss_f, cop_leq_t, cop_leq_f, cop_gtr_t, cop_gtr_f, cop_geq_t, cop_geq_f, cop_eql_t, cop_eql_f, cop_neq_t, cop_neq_f, Bool.not_eq_true, Bool.not_eq_false, Bool.not_eq_true', Bool.not_eq_false', Bool.and_eq_true, Bool.or_eq_true, decide_eq_true_eq, decide_eq_false_iff_not, Bool.false_eq_true, Bool.true_eq_false, Option.bind_some, Option.some.injEq, false_iff, true_iff, iff_false, iff_true]; exact k4), s24 x4 3 (by omega) (by omega), Option.bind_some, mk_exp (by omega) (by omega), reqK_pos (by omega), q1, Option.bind_some, q2, reqK_pos (by omega), q3]
        rfl
    · refine ⟨⟨3, m * 2 ^ (12 : Int).toNat, 12, r6, 32, x4 % 2, false⟩, ?_, ?_⟩
      · simp only [capOk, q4, sizeOk, formOk]
        simp
        omega
      · rw [if_neg (by simp only [cop_lss_t, cop_lss_f, cop_leq_t, cop_leq_f, cop_gtr_t, cop_gtr_f, cop_geq_t, cop_geq_f, cop_eql_t, cop_eql_f, cop_neq_t, cop_neq_f, Bool.not_eq_true, Bool.not_eq_false, Bool.not_eq_true', Bool.not_eq_false', Bool.and_eq_true, Bool.or_eq_true, decide_eq_true_eq, decide_eq_false_iff_not, Bool.false_eq_true, Bool.true_eq_false, Option.bind_some, Option.some.injEq, false_iff, true_iff, iff_false, iff_true]; exact k4), mk_exp (by omega) (by omega), reqK_pos (by omega), q1, Option.bind_some, q2, reqK_pos (by omega), q3]
        rfl
  rw [if_neg (by simp only [cop_lss_t, cop_lss_f, cop_leq_t, cop_leq_f, cop_gtr_t, cop_gtr_f, cop_geq_t, cop_geq_f, cop_eql_t, cop_eql_f, cop_neq_t, cop_neq_f, Bool.not_eq_true, Bool.not_eq_false, Bool.not_eq_true', Bool.not_eq_false', Bool.and_eq_true, Bool.or_eq_true, decide_eq_true_eq, decide_eq_false_iff_not, Bool.false_eq_true, Bool.true_eq_false, Option.bind_some, Option.some.injEq, false_iff, true_iff, iff_false, iff_true]; omega)]
  by_cases k4 : r5 = 3
  · subst k4
    obtain ⟨m, q1, q2, q3, q4⟩ := mk_base x1 (b := 6) (by omega) (by omega)
    refine ⟨⟨4, m * 2 ^ (6 : Int).toNat, 6, r6, 0, 0, false⟩, ?_, ?_⟩
    · simp only [capOk, q4, sizeOk]
      simp
      omega
    · rw [if_pos (by decide), mk_exp (by omega) (by omega), reqK_pos (by omega), q1, Option.bind_some, q2, reqK_pos (by omega), q3]
      rfl
  rw [if_neg (by simp only [cop_lss_t, cop_lss_f, cop_leq_t, cop_leq_f, cop_gtr_t, cop_gtr_f, cop_geq_t, cop_geq_f, cop_eql_t, cop_eql_f, cop_neq_t, cop_neq_f, Bool.not_eq_true, Bool.not_eq_false, Bool.not_eq_true', Bool.not_eq_false', Bool.and_eq_true, Bool.or_eq_true, decide_eq_true_eq, decide_eq_false_iff_not, Bool.false_eq_true, Bool.true_eq_false, Option.bind_some, Option.some.injEq, false_iff, true_iff, iff_false, iff_true]; omega)]
  by_cases k5 : r5 = 4
  · subst k5
    obtain ⟨m, q1, q2, q3, q4⟩ := mk_base x1 (b := 10) (by omega) (by omega)
    refine ⟨⟨5, m * 2 ^ (10 : Int).toNat, 10, r6, 0, 0, false⟩, ?_, ?_⟩
    · simp only [capOk, q4, sizeOk]
      simp
      omega
    · rw [if_pos (by decide), mk_exp (by omega) (by omega), reqK_pos (by omega), q1, Option.bind_some, q2, reqK_pos (by omega), q3]
      rfl
  · obtain rfl : r5 = 5 := by omega
    obtain ⟨m, q1, q2, q3, q4⟩ := mk_base x1 (b := 16) (by omega) (by omega)
    refine ⟨⟨6, m * 2 ^ (16 : Int).toNat, 16, r6, 0, 0, false⟩, ?_, ?_⟩
    · simp only [capOk, q4, sizeOk]
      simp
      omega
    · rw [if_neg (by decide), mk_exp (by omega) (by omega), reqK_pos (by omega), q1, Option.bind_some, q2, reqK_pos (by omega), q3]
      rfl

/-! bits -/
theorem and_bv (a b : Int) : iop .and .i64 a b = (BitVec.ofInt 64 a &&& BitVec.ofInt 64 b).toInt := by
  show IntKind.wrap .i64 (((BitVec.ofInt 64 a &&& BitVec.ofInt 64 b).toNat : Nat) : Int) = _
  generalize BitVec.ofInt 64 a &&& BitVec.ofInt 64 b = x
  have := x.isLt
  rw [BitVec.toInt_eq_toNat_cond]
  simp only [IntKind.wrap]
  have hs : IntKind.i64.signed = true := rfl
  have hb : IntKind.i64.bits = 64 := rfl
  have h64 : (2 : Nat) ^ 64 = 18446744073709551616 := by decide
  have h65 : (2 : Int) ^ 64 = 18446744073709551616 := by decide
  have h63 : (2 : Int) ^ (64 - 1) = 9223372036854775808 := by decide
  simp only [hs, hb, if_true, Bool.true_and, decide_eq_true_eq, h65, h63]
  rw [h64] at this ⊢
  by_cases hx : 2 * x.toNat < 18446744073709551616
  · rw [if_pos hx]; omega
  · rw [if_neg hx]; omega

theorem and_assoc' (a b c : Int) : iop .and .i64 (iop .and .i64 a b) c = iop .and .i64 a (iop .and .i64 b c) := by
  simp only [and_bv, BitVec.ofInt_toInt, BitVec.and_assoc]

theorem and_comm' (a b : Int) : iop .and .i64 a b = iop .and .i64 b a := by
  simp only [and_bv, BitVec.and_comm]

theorem and_again (a b : Int) : iop .and .i64 (iop .and .i64 a b) a = iop .and .i64 a b := by
  rw [and_comm', ← and_assoc', and_bv a a, BitVec.and_self, and_bv, and_bv]
  simp only [BitVec.ofInt_toInt]

theorem and_rng {a : Int} (b : Int) (h0 : 0 ≤ a) (h1 : a ≤ 7) : 0 ≤ iop .and .i64 a b ∧ iop .and .i64 a b ≤ 7 := by
  have h := and_bv a b
  have hle : (BitVec.ofInt 64 a &&& BitVec.ofInt 64 b).toNat ≤ (BitVec.ofInt 64 a).toNat := by
    rw [BitVec.toNat_and]
    exact Nat.and_le_left
  have ha : (BitVec.ofInt 64 a).toNat ≤ 7 := by
    rw [BitVec.toNat_ofInt]
    omega
  rw [h, BitVec.toInt_eq_toNat_cond]
  split <;> omega

theorem and_all {a : Int} (h0 : 0 ≤ a) (h1 : a ≤ 7) : iop .and .i64 a 7 = a := by
  rcases (by omega : a = 0 ∨ a = 1 ∨ a = 2 ∨ a = 3 ∨ a = 4 ∨ a = 5 ∨ a = 6 ∨ a = 7) with rfl | rfl | rfl | rfl | rfl | rfl | rfl | rfl <;> decide

theorem cap_parts {c : Cap} (h : capOk c = true) : 0 ≤ c.rights ∧ c.rights ≤ 7 := by
  simp only [capOk, Bool.and_eq_true, decide_eq_true_eq] at h
  exact h.1.1.2

theorem cap_att {c : Cap} (h : capOk c = true) (m : Int) : capOk { c with rights := iop .and .i64 c.rights m } = true := by
  obtain ⟨h1, h2⟩ := cap_parts h
  have := and_rng m h1 h2
  simp only [capOk, Bool.and_eq_true, decide_eq_true_eq] at h ⊢
  exact ⟨⟨⟨h.1.1.1, this⟩, h.1.2⟩, h.2⟩

theorem s6 (k b s r l x y : Int) : g6 k b s r l x y = some true := by
  obtain ⟨c, hc, h25⟩ := s25 k b s r l
  obtain ⟨c1, c2⟩ := cap_parts hc
  have hv := cap_att (cap_att hc x) y
  simp only at hv
  rw [g6_eq, h25]
  simp only [Option.bind_some, s26, s27, s28, s23]
  have e1 : iop .and .i64 (iop .and .i64 c.rights x) y = iop .and .i64 c.rights (iop .and .i64 x y) := and_assoc' ..
  have e2 : iop .and .i64 (iop .and .i64 c.rights x) c.rights = iop .and .i64 c.rights x := and_again ..
  rw [e1] at hv
  rw [e1, e2, and_all c1 c2, if_pos (by simp [cop]), if_pos (by simp [cop]), if_pos (by simp [sameB]), hv, if_pos rfl, if_pos (by simp [cop])]

theorem over_comm (a b c d : Int) : overB a b c d = overB c d a b := by
  rw [bool_iff]
  simp only [overB, Bool.and_eq_true, decide_eq_true_eq]
  grind

theorem same_comm (a b : Cap) : sameB a b = sameB b a := by
  rw [bool_iff]
  simp only [sameB, Bool.and_eq_true, decide_eq_true_eq]
  grind

theorem co_comm (a b : Cap) : coB a b = coB b a := by
  simp only [coB, over_comm a.base a.bits b.base b.bits, same_comm a b]
  cases overB b.base b.bits a.base a.bits <;> cases sameB b a <;> simp [Bool.or_comm]

theorem s9 (k b s r v kk bb ss rr vv m : Int) : g9 k b s r v kk bb ss rr vv m = some true := by
  obtain ⟨x, hx, h1⟩ := s25 k b s r v
  obtain ⟨y, hy, h2⟩ := s25 kk bb ss rr vv
  rw [g9_eq, h1, h2]
  simp only [Option.bind_some, s30, s26, s27, s28, s23]
  have e1 : coB ⟨y.kind, y.base, y.bits, y.rights, y.width, y.level, y.device⟩ ⟨x.kind, x.base, x.bits, x.rights, x.width, x.level, x.device⟩ = coB ⟨x.kind, x.base, x.bits, x.rights, x.width, x.level, x.device⟩ ⟨y.kind, y.base, y.bits, y.rights, y.width, y.level, y.device⟩ := co_comm ..
  have e2 : coB ⟨x.kind, x.base, x.bits, x.rights, x.width, x.level, x.device⟩ ⟨x.kind, x.base, x.bits, iop .and .i64 x.rights m, x.width, x.level, x.device⟩ = true := by simp [coB, sameB]
  rw [e1, if_neg (by simp), e2, if_neg (by simp)]
  refine ite_goal (fun _ => rfl) fun n1 => ite_goal (fun _ => rfl) fun n2 => ite_goal (fun _ => rfl) fun n3 => ite_goal (fun _ => rfl) fun n4 => ?_
  exfalso
  refine n4 ?_
  simp only [cop_lss_t, cop_lss_f, cop_leq_t, cop_leq_f, cop_gtr_t, cop_gtr_f, cop_geq_t, cop_geq_f, cop_eql_t, cop_eql_f, cop_neq_t, cop_neq_f, Bool.not_eq_true, Bool.not_eq_false, Bool.not_eq_true', Bool.not_eq_false', Bool.and_eq_true, Bool.or_eq_true, decide_eq_true_eq, decide_eq_false_iff_not, Bool.false_eq_true, Bool.true_eq_false, Option.bind_some, Option.some.injEq, false_iff, true_iff, iff_false, iff_true] at n1 n2 n3
  have hrx := cap_rng hx
  have hry := cap_rng n3
  simp only at hrx hry
  have ho : overB x.base x.bits x.base y.bits = true := by
    have p1 := pow_pos2 x.bits.toNat
    have p2 := pow_pos2 y.bits.toNat
    simp only [overB, hrx, hry, Bool.true_and, Bool.and_eq_true, decide_eq_true_eq, rngEnd, if_true]
    omega
  simp [coB, ho, n1, n2]

theorem s5 (x0 x1 x2 : Int) : g5 x0 x1 x2 = some true := by
  obtain ⟨a1, a2⟩ := emod_rng x0 16 (by omega)
  obtain ⟨b1, b2⟩ := emod_rng x1 6 (by omega)
  obtain ⟨c1, c2⟩ := emod_rng x2 13 (by omega)
  rw [g5_eq, s24 x0 16 (by omega) (by omega), Option.bind_some, reqK_pos (by omega), s24 x1 6 (by omega) (by omega), Option.bind_some, s24 x2 13 (by omega) (by omega), Option.bind_some]
  generalize x0 % 16 = p at *
  generalize x1 % 6 = q at *
  generalize x2 % 13 = z at *
  have e1 : iop .add .i64 1 q = 1 + q := add_i (by omega) (by omega)
  have e2 : iop .sub .i64 (1 + q) 1 = q := by rw [sub_i (by omega) (by omega)]; omega
  have e3 : iop .add .i64 6 z = 6 + z := add_i (by omega) (by omega)
  have e4 : iop .shl .i64 p 20 = p * 1048576 := by
    have := shl_i (a := p) (b := 20) (by omega) (by omega) a1 (by
      have e63 : (2 : Int) ^ 63 = 9223372036854775808 := by decide
      have e20 : (2 : Int) ^ (20 : Int).toNat = 1048576 := by decide
      rw [e20]
      omega)
    have e20 : (2 : Int) ^ (20 : Int).toNat = 1048576 := by decide
    rw [this, e20]
  have e20 : (2 : Int) ^ (20 : Int).toNat = 1048576 := by decide
  have hcap : capOk ⟨1, p * 1048576, 20, 7, 0, 0, true⟩ = true := by
    simp only [capOk, sizeOk, rngOk, e20]
    simp
    omega
  have hr2 : iop .and .i64 7 2 ≠ 0 := by decide
  rw [e1, e2, e3, e4]
  rcases (by omega : q = 0 ∨ q = 1 ∨ q = 2 ∨ q = 3 ∨ q = 4 ∨ q = 5) with rfl | rfl | rfl | rfl | rfl | rfl
  · rw [elemK_at (sh := [.int .i64]) (cs := [I (6 + z)]) (r := 6 + z) _ (by omega) rfl rfl, s20]
    have hz := pow_pos2 (6 + z).toNat
    have hz2 := pow_le2 (m := (6 + z).toNat) (n := 18) (by omega)
    have e18 : (2 : Int) ^ 18 = 262144 := by decide
    have he : retErr ⟨1, p * 1048576, 20, 7, 0, 0, true⟩ (1 + 0) (6 + z) 0 32 0 1 = 0 := by
      rw [retErr, if_neg (by simp [hcap]), if_neg hr2, if_neg (by simp [sizeOk]; omega), if_neg (by simp), if_neg (by simp only [e20]; simp; omega)]
    simp only [Option.bind_some, he, retCells, if_true, newCells_len]
    rw [if_neg (by decide), if_pos (by decide), if_pos (by decide), elem_new _ (by decide) (by decide), if_pos rfl, s23]
    rfl
  · rw [elemK_at (sh := [.int .i64]) (cs := [I 12]) (r := 12) _ (by omega) rfl rfl, s20]
    have he : retErr ⟨1, p * 1048576, 20, 7, 0, 0, true⟩ (1 + 1) 12 0 32 0 1 = 0 := by
      rw [retErr, if_neg (by simp [hcap]), if_neg hr2, if_neg (by decide), if_neg (by simp), if_neg (by simp only [e20]; simp)]
    simp only [Option.bind_some, he, retCells, if_true, newCells_len]
    rw [if_pos (by decide), if_neg (by decide), if_pos (by decide), if_pos (by decide), elem_new _ (by decide) (by decide), if_pos rfl, s23]
    rfl
  all_goals
    first
    | rw [elemK_at (sh := [.int .i64]) (cs := [I 12]) (r := 12) _ (by omega) rfl rfl, s20]
    | rw [elemK_at (sh := [.int .i64]) (cs := [I 6]) (r := 6) _ (by omega) rfl rfl, s20]
    | rw [elemK_at (sh := [.int .i64]) (cs := [I 10]) (r := 10) _ (by omega) rfl rfl, s20]
    | rw [elemK_at (sh := [.int .i64]) (cs := [I 16]) (r := 16) _ (by omega) rfl rfl, s20]
    simp only [Option.bind_some, retCells, retErr, hcap, hr2, if_false]
    rw [if_pos (by decide), if_pos (by decide)]
    simp [sizeOk, formOk, s23, cop]

end Go.Proofs.Ytjfhdhplmibnfaa
end

section
namespace Go.Proofs.Ytjfhdhplmibnfaa
open Go Go.AM
set_option linter.unusedSimpArgs false
set_option linter.unusedVariables false

theorem pow_dvd2 {a b : Nat} (h : a ≤ b) : (2 : Int) ^ a ∣ 2 ^ b := ⟨2 ^ (b - a), by rw [← Int.pow_add]; congr 1; omega⟩

theorem pow_le_inv {a b : Nat} (h : (2 : Int) ^ a ≤ 2 ^ b) : a ≤ b := by
  rcases Nat.lt_or_ge b a with hlt | hge
  · have h1 := pow_le2 (m := b + 1) (n := a) hlt
    have h2 : (2 : Int) ^ (b + 1) = 2 ^ b * 2 := Int.pow_succ ..
    have h3 := pow_pos2 b
    omega
  · exact hge

/-- What Retype makes: each is valid, and lies in the source. -/
theorem ret_places {c : Cap} {obj bits level width off cnt : Int} (h : retErr c obj bits level width off cnt = 0) {i : Nat} (hi : (i : Int) < cnt) :
    rngOk (c.base + off + i * 2 ^ bits.toNat) bits = true ∧ capOk ⟨obj, c.base + off + i * 2 ^ bits.toNat, bits, c.rights, if obj = 3 then width else 0, if obj = 3 then level else 0, c.device⟩ = true ∧
      inB c.base c.bits (c.base + off + i * 2 ^ bits.toNat) bits = true ∧ rngEnd (c.base + off + i * 2 ^ bits.toNat) bits = c.base + off + (i + 1) * 2 ^ bits.toNat ∧ rngOk c.base c.bits = true := by
  obtain ⟨h1, h2, h3, h4, h5, h6, h7, h8, h9, h10, h11, h12⟩ := ret_good h
  obtain ⟨r1, r2, r3, r4, r5⟩ := rngOk_of (cap_rng h1)
  obtain ⟨b1, b2⟩ := size_rng h4
  have hp := pow_pos2 bits.toNat
  have m0 : 0 ≤ (i : Int) * 2 ^ bits.toNat := Int.mul_nonneg (by omega) (by omega)
  have m1 : ((i : Int) + 1) * 2 ^ bits.toNat ≤ cnt * 2 ^ bits.toNat := Int.mul_le_mul_of_nonneg_right (by omega) (by omega)
  have m2 : ((i : Int) + 1) * 2 ^ bits.toNat = i * 2 ^ bits.toNat + 2 ^ bits.toNat := by rw [Int.add_mul, Int.one_mul]
  have m3 : 1 * 2 ^ bits.toNat ≤ cnt * 2 ^ bits.toNat := Int.mul_le_mul_of_nonneg_right (by omega) (by omega)
  have hle : bits.toNat ≤ c.bits.toNat := pow_le_inv (by omega)
  have hd1 : (2 : Int) ^ bits.toNat ∣ c.base := Int.dvd_trans (pow_dvd2 hle) (Int.dvd_of_emod_eq_zero r4)
  have hd : (2 : Int) ^ bits.toNat ∣ c.base + off + i * 2 ^ bits.toNat := Int.dvd_add (Int.dvd_add hd1 (Int.dvd_of_emod_eq_zero h10)) (Int.dvd_mul_left _ _)
  have hr : rngOk (c.base + off + i * 2 ^ bits.toNat) bits = true := by
    simp only [rngOk, decide_eq_true_eq]
    exact ⟨b1, b2, by omega, Int.emod_eq_zero_of_dvd hd, by omega⟩
  have hend : rngEnd (c.base + off + i * 2 ^ bits.toNat) bits = c.base + off + (i + 1) * 2 ^ bits.toNat := by
    simp only [rngEnd, hr, if_true]
    omega
  have hrc := cap_rng h1
  refine ⟨hr, ?_, ?_, hend, hrc⟩
  · simp only [capOk, hr, h4, Bool.and_true, Bool.true_and, Bool.and_eq_true, decide_eq_true_eq, Bool.or_eq_true, Bool.not_eq_true']
    refine ⟨⟨cap_parts h1, ?_⟩, ?_⟩
    · by_cases h3 : obj = 3
      · simp only [if_pos h3]
        exact h5 h3
      · simp only [if_neg h3]
        decide
    · cases hdv : c.device
      · exact .inl (.inl rfl)
      · rcases h9 hdv with h | h
        · exact .inl (.inr h)
        · exact .inr h
  · simp only [inB, hr, hrc, Bool.true_and, Bool.and_eq_true, decide_eq_true_eq, hend]
    have : rngEnd c.base c.bits = c.base + 2 ^ c.bits.toNat := by simp only [rngEnd, hrc, if_true]
    omega

theorem l7 {c : Cap} {obj bits off cnt : Int} (h : retErr c obj bits 1 39 off cnt = 0) : ∀ (j i fuel : Nat), cnt = i + j → j < fuel →
    g7L0 fuel c.kind c.base c.bits c.rights c.width c.level c.device obj bits cnt off (retCells c obj bits 1 39 off cnt) i = some true := by
  obtain ⟨h1, h2, h3, h4, h5, h6, h7, h8, h9, h10, h11, h12⟩ := ret_good h
  obtain ⟨n1, n2, n3, n4, n5, n6, n7, n8, n9, n10, n11, n12, n13, n14, n15, n16⟩ := ret_nums h1 h4 h6 h7 h8
  have hcells : retCells c obj bits 1 39 off cnt = newCells obj (c.base + off) (2 ^ bits.toNat) bits c.rights (if obj = 3 then 39 else 0) (if obj = 3 then 1 else 0) c.device cnt.toNat := by simp only [retCells, h, if_true]
  intro j
  induction j with
  | zero =>
    intro i fuel hi hf
    obtain ⟨f, rfl⟩ : ∃ f, fuel = f + 1 := ⟨fuel - 1, by omega⟩
    rw [g7L0_eq, if_neg (by simp only [cop_lss_t, cop_lss_f, cop_leq_t, cop_leq_f, cop_gtr_t, cop_gtr_f, cop_geq_t, cop_geq_f, cop_eql_t, cop_eql_f, cop_neq_t, cop_neq_f, Bool.not_eq_true, Bool.not_eq_false, Bool.not_eq_true', Bool.not_eq_false', Bool.and_eq_true, Bool.or_eq_true, decide_eq_true_eq, decide_eq_false_iff_not, Bool.false_eq_true, Bool.true_eq_false, Option.bind_some, Option.some.injEq, false_iff, true_iff, iff_false, iff_true]; omega), s23]
    rfl
  | succ j ih =>
    intro i fuel hi hf
    obtain ⟨f, rfl⟩ : ∃ f, fuel = f + 1 := ⟨fuel - 1, by omega⟩
    have m0 : 0 ≤ (i : Int) * 2 ^ bits.toNat := Int.mul_nonneg (by omega) (by omega)
    have m1 : ((i : Int)) * 2 ^ bits.toNat ≤ cnt * 2 ^ bits.toNat := Int.mul_le_mul_of_nonneg_right (by omega) (by omega)
    have e63 : (2 : Int) ^ 63 = 9223372036854775808 := by decide
    have a1 : IntKind.wrap .u64 bits = bits := wrapu_of n7 (by omega)
    have a2 : iop .shl .i64 i bits = i * 2 ^ bits.toNat := shl_i n7 (by omega) (by omega) (by omega)
    have a3 : iop .add .i64 c.base off = c.base + off := add_i (by omega) (by omega)
    have a5 : iop .add .i64 (c.base + off) (i * 2 ^ bits.toNat) = c.base + off + i * 2 ^ bits.toNat := add_i (by omega) (by omega)
    have a4 : iop .add .i64 i 1 = ((i + 1 : Nat) : Int) := by rw [add_i (by omega) (by omega)]; omega
    obtain ⟨p1, p2, p3, p4, p5⟩ := ret_places h (i := i) (by omega)
    have co1 : coB c ⟨obj, c.base + off + i * 2 ^ bits.toNat, bits, c.rights, if obj = 3 then 39 else 0, if obj = 3 then 1 else 0, c.device⟩ = true := by simp [coB, p3, h2]
    have co2 := co_comm c ⟨obj, c.base + off + i * 2 ^ bits.toNat, bits, c.rights, if obj = 3 then 39 else 0, if obj = 3 then 1 else 0, c.device⟩
    rw [co1] at co2
    have next := ih (i + 1) f (by omega) (by omega)
    rw [hcells] at next ⊢
    rw [g7L0_eq, if_pos (by simp only [cop_lss_t, cop_lss_f, cop_leq_t, cop_leq_f, cop_gtr_t, cop_gtr_f, cop_geq_t, cop_geq_f, cop_eql_t, cop_eql_f, cop_neq_t, cop_neq_f, Bool.not_eq_true, Bool.not_eq_false, Bool.not_eq_true', Bool.not_eq_false', Bool.and_eq_true, Bool.or_eq_true, decide_eq_true_eq, decide_eq_false_iff_not, Bool.false_eq_true, Bool.true_eq_false, Option.bind_some, Option.some.injEq, false_iff, true_iff, iff_false, iff_true]; omega), elem_new _ (by omega) (by omega)]
    simp only [s28, s30, s32, s31, Option.bind_some, p2, a1, a2, a3, a4, a5]
    rw [if_neg (by simp), if_neg (by simp [cop]), if_neg (by simp [cop]), reqK_pos n7, if_neg (by simp [cop]), if_neg (by simp [cop]), co1, if_neg (by simp), ← co2, if_neg (by simp)]
    by_cases hi0 : i = 0
    · subst hi0
      rw [if_neg (by decide)]
      exact next
    · have a6 : iop .sub .i64 i 1 = ((i - 1 : Nat) : Int) := by rw [sub_i (by omega) (by omega)]; omega
      obtain ⟨q1, q2, q3, q4, q5⟩ := ret_places h (i := i - 1) (by omega)
      have hov : overB (c.base + off + ((i - 1 : Nat) : Int) * 2 ^ bits.toNat) bits (c.base + off + i * 2 ^ bits.toNat) bits = false := by
        have : ((i - 1 : Nat) : Int) + 1 = i := by omega
        simp only [overB, q1, p1, q4, this, Bool.true_and, Int.lt_irrefl, decide_false, Bool.and_false]
      rw [if_pos (by simp only [cop_lss_t, cop_lss_f, cop_leq_t, cop_leq_f, cop_gtr_t, cop_gtr_f, cop_geq_t, cop_geq_f, cop_eql_t, cop_eql_f, cop_neq_t, cop_neq_f, Bool.not_eq_true, Bool.not_eq_false, Bool.not_eq_true', Bool.not_eq_false', Bool.and_eq_true, Bool.or_eq_true, decide_eq_true_eq, decide_eq_false_iff_not, Bool.false_eq_true, Bool.true_eq_false, Option.bind_some, Option.some.injEq, false_iff, true_iff, iff_false, iff_true]; omega), a6, elem_new _ (by omega) (by omega)]
      simp only [hov, Bool.false_eq_true, if_false]
      exact next

theorem or_two {r : Int} (h0 : 0 ≤ r) (h1 : r < 8) : 0 ≤ iop .or .i64 r 2 ∧ iop .or .i64 r 2 ≤ 7 ∧ iop .and .i64 (iop .or .i64 r 2) 2 ≠ 0 := by
  rcases (by omega : r = 0 ∨ r = 1 ∨ r = 2 ∨ r = 3 ∨ r = 4 ∨ r = 5 ∨ r = 6 ∨ r = 7) with rfl | rfl | rfl | rfl | rfl | rfl | rfl | rfl <;> decide

/-- multikernelmake.Untyped -/
theorem s29 (x0 x1 : Int) : ∃ b s, 6 ≤ s ∧ s ≤ 16 ∧ rngOk b s = true ∧ g29 x0 x1 = some (1, b, s, 7, 0, 0, false) := by
  obtain ⟨a1, a2⟩ := emod_rng x1 11 (by omega)
  rw [g29_eq, g72_eq, s24 x1 11 (by omega) (by omega), Option.bind_some]
  generalize x1 % 11 = z at *
  have e1 : iop .add .i64 6 z = 6 + z := add_i (by omega) (by omega)
  have e2 : iop .sub .i64 16 (6 + z) = 10 - z := by rw [sub_i (by omega) (by omega)]; omega
  have e3 : IntKind.wrap .u64 (10 - z) = 10 - z := wrapu_of (by omega) (by omega)
  have e4 : IntKind.wrap .u64 (6 + z) = 6 + z := wrapu_of (by omega) (by omega)
  have hp := pow_pos2 (10 - z).toNat
  have hq := pow_pos2 (6 + z).toNat
  have hs : (2 : Int) ^ (10 - z).toNat * 2 ^ (6 + z).toNat = 65536 := by
    rw [← Int.pow_add, show (10 - z).toNat + (6 + z).toNat = 16 by omega]
    decide
  have hle : (2 : Int) ^ (10 - z).toNat ≤ 1024 := by
    have := pow_le2 (m := (10 - z).toNat) (n := 10) (by omega)
    have e : (2 : Int) ^ 10 = 1024 := by decide
    omega
  have e62 : (2 : Int) ^ 62 = 4611686018427387904 := by decide
  have e63 : (2 : Int) ^ 63 = 9223372036854775808 := by decide
  obtain ⟨r1, r2⟩ := emod_rng x0 (2 ^ (10 - z).toNat) (by omega)
  have m1 : (x0 % 2 ^ (10 - z).toNat + 1) * 2 ^ (6 + z).toNat ≤ 2 ^ (10 - z).toNat * 2 ^ (6 + z).toNat := Int.mul_le_mul_of_nonneg_right (by omega) (by omega)
  have m2 : (x0 % 2 ^ (10 - z).toNat + 1) * 2 ^ (6 + z).toNat = x0 % 2 ^ (10 - z).toNat * 2 ^ (6 + z).toNat + 2 ^ (6 + z).toNat := by rw [Int.add_mul, Int.one_mul]
  have m3 : 0 ≤ x0 % 2 ^ (10 - z).toNat * 2 ^ (6 + z).toNat := Int.mul_nonneg r1 (by omega)
  refine ⟨x0 % 2 ^ (10 - z).toNat * 2 ^ (6 + z).toNat, 6 + z, by omega, by omega, ?_, ?_⟩
  · simp only [rngOk, decide_eq_true_eq]
    exact ⟨by omega, by omega, m3, Int.mul_emod_left _ _, by omega⟩
  · rw [e1, e2, e3, e4, shl1 (by omega), reqK_pos (by omega), s24 _ _ (by omega) (by omega), Option.bind_some, reqK_pos (by omega), shl_i (by omega) (by omega) r1 (by omega)]
    rfl

theorem s7 (x0 x1 x2 x3 x4 x5 x6 : Int) : g7 x0 x1 x2 x3 x4 x5 x6 = some true := by
  obtain ⟨b, s, hs1, hs2, hrng, h29⟩ := s29 x0 x1
  obtain ⟨a1, a2⟩ := emod_rng x6 8 (by omega)
  obtain ⟨b1, b2⟩ := emod_rng x2 6 (by omega)
  obtain ⟨c1, c2⟩ := emod_rng x3 11 (by omega)
  obtain ⟨d1, d2⟩ := emod_rng x5 8 (by omega)
  obtain ⟨f1, f2⟩ := emod_rng x4 64 (by omega)
  rw [g7_eq, h29]
  simp only [Option.bind_some]
  rw [s24 x6 8 (by omega) (by omega), Option.bind_some, s24 x2 6 (by omega) (by omega), Option.bind_some, s24 x3 11 (by omega) (by omega), Option.bind_some, s24 x5 8 (by omega) (by omega), s24 x4 64 (by omega) (by omega)]
  simp only [Option.bind_some]
  generalize x6 % 8 = r at *
  generalize x2 % 6 = q at *
  generalize x3 % 11 = z at *
  generalize x5 % 8 = n at *
  generalize x4 % 64 = p at *
  have e1 : iop .add .i64 1 q = 1 + q := add_i (by omega) (by omega)
  have e2 : iop .sub .i64 (1 + q) 1 = q := by rw [sub_i (by omega) (by omega)]; omega
  have e3 : iop .add .i64 6 z = 6 + z := add_i (by omega) (by omega)
  have e4 : iop .add .i64 1 n = 1 + n := add_i (by omega) (by omega)
  obtain ⟨o1, o2, o3⟩ := or_two a1 a2
  generalize iop .or .i64 r 2 = rt at *
  rw [e1, e2, e3, e4]
  -- the size
  obtain ⟨k, hk, hsz⟩ : ∃ k : Int, ((((((([] : List (List AV)) ++ [[AV.val (.int .i64 (6 + z))]]) ++ [[AV.val (.int .i64 12)]]) ++ [[AV.val (.int .i64 12)]]) ++ [[AV.val (.int .i64 6)]]) ++ [[AV.val (.int .i64 10)]]) ++ [[AV.val (.int .i64 16)]])[q.toNat]? = some [I k] ∧ sizeOk (1 + q) k = true := by
    rcases (by omega : q = 0 ∨ q = 1 ∨ q = 2 ∨ q = 3 ∨ q = 4 ∨ q = 5) with rfl | rfl | rfl | rfl | rfl | rfl
    · exact ⟨6 + z, rfl, by simp [sizeOk]; omega⟩
    · exact ⟨12, rfl, by decide⟩
    · exact ⟨12, rfl, by decide⟩
    · exact ⟨6, rfl, by decide⟩
    · exact ⟨10, rfl, by decide⟩
    · exact ⟨16, rfl, by decide⟩
  rw [elemK_at (sh := [.int .i64]) (cs := [I k]) (r := k) _ b1 hk rfl]
  obtain ⟨k1, k2⟩ := size_rng hsz
  have hk16 : k ≤ 16 := by
    simp only [sizeOk, decide_eq_true_eq] at hsz
    rcases (by omega : q = 0 ∨ q = 1 ∨ q = 2 ∨ q = 3 ∨ q = 4 ∨ q = 5) with rfl | rfl | rfl | rfl | rfl | rfl
    · simp at hk; omega
    · simp at hk; omega
    · simp at hk; omega
    · simp at hk; omega
    · simp at hk; omega
    · simp at hk; omega
  have w1 : IntKind.wrap .u64 k = k := wrapu_of (by omega) (by omega)
  have w2 : IntKind.wrap .u64 s = s := wrapu_of (by omega) (by omega)
  have hpk := pow_pos2 k.toNat
  have hps := pow_pos2 s.toNat
  have hk64 : (2 : Int) ^ k.toNat ≤ 65536 := by
    have := pow_le2 (m := k.toNat) (n := 16) (by omega)
    have e : (2 : Int) ^ 16 = 65536 := by decide
    omega
  have e63 : (2 : Int) ^ 63 = 9223372036854775808 := by decide
  have mp : p * 2 ^ k.toNat ≤ 64 * 2 ^ k.toNat := Int.mul_le_mul_of_nonneg_right (by omega) (by omega)
  have mp0 : 0 ≤ p * 2 ^ k.toNat := Int.mul_nonneg f1 (by omega)
  have mn : (1 + n) * 2 ^ k.toNat ≤ 8 * 2 ^ k.toNat := Int.mul_le_mul_of_nonneg_right (by omega) (by omega)
  have mn0 : 0 ≤ (1 + n) * 2 ^ k.toNat := Int.mul_nonneg (by omega) (by omega)
  have t1 : iop .shl .i64 p k = p * 2 ^ k.toNat := shl_i (by omega) (by omega) f1 (by omega)
  have t2 : iop .shl .i64 (1 + n) k = (1 + n) * 2 ^ k.toNat := shl_i (by omega) (by omega) (by omega) (by omega)
  have t3 : iop .shl .i64 1 s = 2 ^ s.toNat := shl1 (by omega)
  have t4 : iop .add .i64 (p * 2 ^ k.toNat) ((1 + n) * 2 ^ k.toNat) = p * 2 ^ k.toNat + (1 + n) * 2 ^ k.toNat := add_i (by omega) (by omega)
  have hcap : capOk ⟨1, b, s, rt, 0, 0, false⟩ = true := by
    have hz : sizeOk 1 s = true := by simp [sizeOk]; omega
    simp only [capOk, hz, hrng]
    simp
    omega
  have hR : retErr ⟨1, b, s, rt, 0, 0, false⟩ (1 + q) k 1 39 (p * 2 ^ k.toNat) (1 + n) = if 2 ^ s.toNat - (1 + n) * 2 ^ k.toNat < p * 2 ^ k.toNat ∨ (1 + q = 1 ∧ s ≤ k) then 6 else 0 := by
    have hm : p * 2 ^ k.toNat % 2 ^ k.toNat = 0 := Int.mul_emod_left _ _
    have hfo : formOk 39 1 = true := by decide
    rw [retErr, if_neg (by simp [hcap]), if_neg o3, if_neg (by
      rintro (h | ⟨h, h'⟩ | h | h | h)
      · rw [hsz] at h; cases h
      · rw [hfo] at h'; cases h'
      · omega
      · omega
      · omega), if_neg (by simp)]
    simp only [hm, ne_eq, not_true, false_or]
  simp only [w1, w2, t1, t2, t3, t4, s20, Option.bind_some]
  rw [reqK_pos (by omega), reqK_pos (by omega), reqK_pos (by omega)]
  by_cases hfit : 2 ^ s.toNat - (1 + n) * 2 ^ k.toNat < p * 2 ^ k.toNat ∨ (1 + q = 1 ∧ s ≤ k)
  · rw [if_pos hfit] at hR
    simp only [hR, retCells]
    repeat' (with_reducible refine ite_goal (fun _ => ?_) (fun _ => ?_))
    all_goals first
      | (rw [s23]; rfl)
      | (exfalso; simp only [cop_lss_t, cop_lss_f, cop_leq_t, cop_leq_f, cop_gtr_t, cop_gtr_f, cop_geq_t, cop_geq_f, cop_eql_t, cop_eql_f, cop_neq_t, cop_neq_f, Bool.not_eq_true, Bool.not_eq_false, Bool.not_eq_true', Bool.not_eq_false', Bool.and_eq_true, Bool.or_eq_true, decide_eq_true_eq, decide_eq_false_iff_not, Bool.false_eq_true, Bool.true_eq_false, Option.bind_some, Option.some.injEq, false_iff, true_iff, iff_false, iff_true, List.length_nil] at *; first | omega | grind)
  · rw [if_neg hfit] at hR
    have hL := l7 hR (1 + n).toNat 0 FUEL (by omega) (fuel_lt (by omega))
    have hlen : (List.length (retCells ⟨1, b, s, rt, 0, 0, false⟩ (1 + q) k 1 39 (p * 2 ^ k.toNat) (1 + n)) : Int) = 1 + n := by
      simp only [retCells, hR, if_true, newCells_len]
      omega
    simp only [hR, hlen]
    repeat' (with_reducible refine ite_goal (fun _ => ?_) (fun _ => ?_))
    all_goals first
      | exact hL
      | (exfalso; simp only [cop_lss_t, cop_lss_f, cop_leq_t, cop_leq_f, cop_gtr_t, cop_gtr_f, cop_geq_t, cop_geq_f, cop_eql_t, cop_eql_f, cop_neq_t, cop_neq_f, Bool.not_eq_true, Bool.not_eq_false, Bool.not_eq_true', Bool.not_eq_false', Bool.and_eq_true, Bool.or_eq_true, decide_eq_true_eq, decide_eq_false_iff_not, Bool.false_eq_true, Bool.true_eq_false, Option.bind_some, Option.some.injEq, false_iff, true_iff, iff_false, iff_true] at *; first | omega | grind)

end Go.Proofs.Ytjfhdhplmibnfaa
end

section
namespace Go.Proofs.Ytjfhdhplmibnfaa
open Go Go.AM
set_option linter.unusedSimpArgs false
set_option linter.unusedVariables false

theorem bytes_len (l : List Int) : (byteCells l).length = l.length := by simp [byteCells]

theorem bytes_ok {l : List Int} (h : Bytes l) : bytesP (byteCells l) := by
  intro e he
  obtain ⟨z, hz, rfl⟩ := List.mem_map.1 he
  exact ⟨z, (h z hz).1, (h z hz).2, rfl⟩

theorem bytes_at {l : List Int} {i : Nat} {z : Int} (h : l[i]? = some z) : (byteCells l)[i]? = some [AV.val (.int .u8 z)] := by
  simp [byteCells, h, u8c]

theorem elem_byte {γ : Type} {l : List Int} {i : Int} {z : Int} (k : Int → Option γ) (h0 : 0 ≤ i) (h : l[i.toNat]? = some z) : elemK (byteCells l) i [.int .u8] k = k z :=
  elemK_at (sh := [.int .u8]) (r := z) k h0 (bytes_at h) rfl

theorem wrap8 (z : Int) : IntKind.wrap .u8 z = z % 256 := by
  have hb : IntKind.u8.bits = 8 := rfl
  have hs : IntKind.u8.signed = false := rfl
  simp [IntKind.wrap, hb, hs]

theorem byte_at {l : List Int} (i : Nat) (h : i < l.length) : l[i]? = some (l.getD i 0) := by simp [h]

theorem byte_in {l : List Int} (hb : Bytes l) (i : Nat) (h : i < l.length) : 0 ≤ l.getD i 0 ∧ l.getD i 0 ≤ 255 := by
  have : l.getD i 0 = l[i] := by simp [h]
  rw [this]
  exact hb _ (List.getElem_mem h)

theorem shr_i {a : Int} {n : Nat} (h : n ≤ 64) : iop .shr .i64 a n = a / 2 ^ n := by
  have hmin : min ((n : Int)).toNat IntKind.i64.bits = n := by
    have : IntKind.i64.bits = 64 := rfl
    omega
  simp only [iop, hmin]
  rw [Int.fdiv_eq_ediv_of_nonneg _ (by have := pow_pos2 n; omega)]

theorem and255 (x : Int) : IntKind.wrap .u8 (iop .and .i64 x 255) = IntKind.wrap .u8 x := by
  rw [wrap8, wrap8, and_bv, BitVec.toInt_eq_toNat_cond]
  have h1 : (BitVec.ofInt 64 x &&& BitVec.ofInt 64 255).toNat = (x % 2 ^ 64).toNat % 256 := by
    rw [BitVec.toNat_and, BitVec.toNat_ofInt, BitVec.toNat_ofInt]
    have h255 : ((255 : Int) % ((2 ^ 64 : Nat) : Int)).toNat = 2 ^ 8 - 1 := by decide
    rw [h255, Nat.and_two_pow_sub_one_eq_mod]
    rfl
  have h64 : (2 : Int) ^ 64 = 18446744073709551616 := by decide
  have h65 : (2 : Nat) ^ 64 = 18446744073709551616 := by decide
  rw [h1, h64, h65]
  split <;> omega

/-- captype.Encode -/
def capCode (c : Cap) : List Int := [c.kind, c.bits, c.rights + (if c.device = true then 8 else 0), c.width, c.level, c.base % 256, c.base / 256 % 256, c.base / 65536 % 256, c.base / 16777216 % 256, c.base / 4294967296 % 256]

def encB (c : Cap) : List Int := if capOk c = true then capCode c else []
def encE (c : Cap) : Int := if capOk c = true then 0 else 1

theorem cap_nums {c : Cap} (h : capOk c = true) : 1 ≤ c.kind ∧ c.kind ≤ 6 ∧ 6 ≤ c.bits ∧ c.bits ≤ 40 ∧ 0 ≤ c.rights ∧ c.rights ≤ 7 ∧ 0 ≤ c.width ∧ c.width ≤ 39 ∧ 0 ≤ c.level ∧ c.level ≤ 2 ∧ 0 ≤ c.base ∧ c.base < 1099511627776 := by
  obtain ⟨r1, r2, r3, r4, r5⟩ := rngOk_of (cap_rng h)
  have hp := pow_pos2 c.bits.toNat
  simp only [capOk, Bool.and_eq_true, decide_eq_true_eq] at h
  obtain ⟨⟨⟨⟨h1, h2⟩, h3⟩, h4⟩, h5⟩ := h
  simp only [sizeOk, decide_eq_true_eq] at h1
  have h6 : 0 ≤ c.width ∧ c.width ≤ 39 ∧ 0 ≤ c.level ∧ c.level ≤ 2 := by
    split at h4
    · simp only [formOk, decide_eq_true_eq] at h4
      omega
    · simp only [decide_eq_true_eq] at h4
      omega
  omega

theorem room1 {a b : List (List AV)} (ha : a.length ≤ 1000000) (hb : b.length ≤ 1000000) : roomP a b 1 := by
  unfold roomP roomMax
  omega

theorem fuel6 : ∃ f, FUEL = f + 1 + 1 + 1 + 1 + 1 + 1 := ⟨FUEL - 6, by decide⟩

theorem enc_tail {f : Nat} {k b s r w l : Int} {d : Bool} {x0 x1 x2 x3 x4 : Int} : g38L0 (f + 1 + 1 + 1 + 1 + 1 + 1) k b s r w l d (byteCells [x0, x1, x2, x3, x4]) 0 =
    some (byteCells [x0, x1, x2, x3, x4, b % 256, b / 256 % 256, b / 65536 % 256, b / 16777216 % 256, b / 4294967296 % 256], 0) := by
  have q0 : iop .shr .i64 b (iop .mul .i64 8 0) = b := by rw [show iop .mul .i64 8 0 = ((0 : Nat) : Int) by decide, shr_i (by decide)]; simp
  have q1 : iop .shr .i64 b (iop .mul .i64 8 1) = b / 256 := by rw [show iop .mul .i64 8 1 = ((8 : Nat) : Int) by decide, shr_i (by decide)]; rfl
  have q2 : iop .shr .i64 b (iop .mul .i64 8 2) = b / 65536 := by rw [show iop .mul .i64 8 2 = ((16 : Nat) : Int) by decide, shr_i (by decide)]; rfl
  have q3 : iop .shr .i64 b (iop .mul .i64 8 3) = b / 16777216 := by rw [show iop .mul .i64 8 3 = ((24 : Nat) : Int) by decide, shr_i (by decide)]; rfl
  have q4 : iop .shr .i64 b (iop .mul .i64 8 4) = b / 4294967296 := by rw [show iop .mul .i64 8 4 = ((32 : Nat) : Int) by decide, shr_i (by decide)]; rfl
  rw [g38L0_eq, if_pos (by decide), reqK_pos (by decide), reqK_pos (room1 (by simp [byteCells]) (by simp)), q0, show iop .add .i64 0 1 = 1 by decide,
    g38L0_eq, if_pos (by decide), reqK_pos (by decide), reqK_pos (room1 (by simp [byteCells]) (by simp)), q1, show iop .add .i64 1 1 = 2 by decide,
    g38L0_eq, if_pos (by decide), reqK_pos (by decide), reqK_pos (room1 (by simp [byteCells]) (by simp)), q2, show iop .add .i64 2 1 = 3 by decide,
    g38L0_eq, if_pos (by decide), reqK_pos (by decide), reqK_pos (room1 (by simp [byteCells]) (by simp)), q3, show iop .add .i64 3 1 = 4 by decide,
    g38L0_eq, if_pos (by decide), reqK_pos (by decide), reqK_pos (room1 (by simp [byteCells]) (by simp)), q4, show iop .add .i64 4 1 = 5 by decide,
    g38L0_eq, if_neg (by decide)]
  simp only [wrap8]
  rfl

theorem s38 (k b s r w l : Int) (d : Bool) : g38 k b s r w l d = some (byteCells (encB ⟨k, b, s, r, w, l, d⟩), encE ⟨k, b, s, r, w, l, d⟩) := by
  rw [g38_eq, s28]
  simp only [Option.bind_some]
  cases hc : capOk ⟨k, b, s, r, w, l, d⟩ with
  | false => simp [encB, encE, hc, byteCells]
  | true =>
    obtain ⟨h1, h2, h3, h4, h5, h6, h7, h8, h9, h10, h11, h12⟩ := cap_nums hc
    simp only at h1 h2 h3 h4 h5 h6 h7 h8 h9 h10 h11 h12
    have a8 : iop .add .i64 r 8 = r + 8 := add_i (by omega) (by omega)
    have w1 : k % 256 = k := by omega
    have w2 : s % 256 = s := by omega
    have w3 : r % 256 = r := by omega
    have w4 : (r + 8) % 256 = r + 8 := by omega
    have w5 : w % 256 = w := by omega
    have w6 : l % 256 = l := by omega
    obtain ⟨f, hf⟩ := fuel6
    simp only [Bool.not_true, Bool.false_eq_true, if_false, wrap8, a8, w1, w2, w3, w4, w5, w6, hf]
    cases d
    · have := enc_tail (f := f) (k := k) (b := b) (s := s) (r := r) (w := w) (l := l) (d := false) (x0 := k) (x1 := s) (x2 := r) (x3 := w) (x4 := l)
      rw [if_neg (by simp)]
      simp only [encB, encE, hc, if_true, capCode, Bool.false_eq_true, if_false, Int.add_zero]
      exact this
    · have := enc_tail (f := f) (k := k) (b := b) (s := s) (r := r) (w := w) (l := l) (d := true) (x0 := k) (x1 := s) (x2 := r + 8) (x3 := w) (x4 := l)
      rw [if_pos rfl]
      simp only [encB, encE, hc, if_true, capCode]
      exact this

theorem enc_tail' {f : Nat} {k b s r w l : Int} {d : Bool} {x0 x1 x2 x3 x4 : Int} : g39L0 (f + 1 + 1 + 1 + 1 + 1 + 1) k b s r w l d (byteCells [x0, x1, x2, x3, x4]) 0 =
    some (byteCells [x0, x1, x2, x3, x4, b % 256, b / 256 % 256, b / 65536 % 256, b / 16777216 % 256, b / 4294967296 % 256], 0) := by
  have v0 : IntKind.wrap .u64 (iop .mul .i64 8 0) = ((0 : Nat) : Int) := by decide
  have v1 : IntKind.wrap .u64 (iop .mul .i64 8 1) = ((8 : Nat) : Int) := by decide
  have v2 : IntKind.wrap .u64 (iop .mul .i64 8 2) = ((16 : Nat) : Int) := by decide
  have v3 : IntKind.wrap .u64 (iop .mul .i64 8 3) = ((24 : Nat) : Int) := by decide
  have v4 : IntKind.wrap .u64 (iop .mul .i64 8 4) = ((32 : Nat) : Int) := by decide
  have q0 : iop .shr .i64 b ((0 : Nat) : Int) = b := by rw [shr_i (by decide)]; simp
  have q1 : iop .shr .i64 b ((8 : Nat) : Int) = b / 256 := shr_i (by decide)
  have q2 : iop .shr .i64 b ((16 : Nat) : Int) = b / 65536 := shr_i (by decide)
  have q3 : iop .shr .i64 b ((24 : Nat) : Int) = b / 16777216 := shr_i (by decide)
  have q4 : iop .shr .i64 b ((32 : Nat) : Int) = b / 4294967296 := shr_i (by decide)
  rw [g39L0_eq, if_pos (by decide), reqK_pos (by decide), reqK_pos (room1 (by simp [byteCells]) (by simp)), and255, v0, q0, show iop .add .i64 0 1 = 1 by decide,
    g39L0_eq, if_pos (by decide), reqK_pos (by decide), reqK_pos (room1 (by simp [byteCells]) (by simp)), and255, v1, q1, show iop .add .i64 1 1 = 2 by decide,
    g39L0_eq, if_pos (by decide), reqK_pos (by decide), reqK_pos (room1 (by simp [byteCells]) (by simp)), and255, v2, q2, show iop .add .i64 2 1 = 3 by decide,
    g39L0_eq, if_pos (by decide), reqK_pos (by decide), reqK_pos (room1 (by simp [byteCells]) (by simp)), and255, v3, q3, show iop .add .i64 3 1 = 4 by decide,
    g39L0_eq, if_pos (by decide), reqK_pos (by decide), reqK_pos (room1 (by simp [byteCells]) (by simp)), and255, v4, q4, show iop .add .i64 4 1 = 5 by decide,
    g39L0_eq, if_neg (by decide)]
  simp only [wrap8]
  rfl

theorem s39 (k b s r w l : Int) (d : Bool) : g39 k b s r w l d = some (byteCells (encB ⟨k, b, s, r, w, l, d⟩), encE ⟨k, b, s, r, w, l, d⟩) := by
  rw [g39_eq, s33]
  simp only [Option.bind_some]
  cases hc : capOk ⟨k, b, s, r, w, l, d⟩ with
  | false => simp [encB, encE, hc, byteCells]
  | true =>
    obtain ⟨h1, h2, h3, h4, h5, h6, h7, h8, h9, h10, h11, h12⟩ := cap_nums hc
    simp only at h1 h2 h3 h4 h5 h6 h7 h8 h9 h10 h11 h12
    have a8 : iop .add .i64 r 8 = r + 8 := add_i (by omega) (by omega)
    have w1 : k % 256 = k := by omega
    have w2 : s % 256 = s := by omega
    have w3 : r % 256 = r := by omega
    have w4 : (r + 8) % 256 = r + 8 := by omega
    have w5 : w % 256 = w := by omega
    have w6 : l % 256 = l := by omega
    obtain ⟨f, hf⟩ := fuel6
    simp only [Bool.not_true, Bool.false_eq_true, if_false, wrap8, a8, w1, w2, w3, w4, w5, w6, hf]
    cases d
    · have := enc_tail' (f := f) (k := k) (b := b) (s := s) (r := r) (w := w) (l := l) (d := false) (x0 := k) (x1 := s) (x2 := r) (x3 := w) (x4 := l)
      rw [if_neg (by simp)]
      simp only [encB, encE, hc, if_true, capCode, Bool.false_eq_true, if_false, Int.add_zero]
      exact this
    · have := enc_tail' (f := f) (k := k) (b := b) (s := s) (r := r) (w := w) (l := l) (d := true) (x0 := k) (x1 := s) (x2 := r + 8) (x3 := w) (x4 := l)
      rw [if_pos rfl]
      simp only [encB, encE, hc, if_true, capCode]
      exact this

end Go.Proofs.Ytjfhdhplmibnfaa
end

section
namespace Go.Proofs.Ytjfhdhplmibnfaa
open Go Go.AM
set_option linter.unusedSimpArgs false
set_option linter.unusedVariables false

abbrev idSh : List Sh := [.int .i64, .int .i64, .int .i64]

/-- node.ValidId -/
def idOk (i : Id) : Bool := decide (0 ≤ i.core ∧ i.core < 32 ∧ 1 ≤ i.op ∧ i.op ≤ 1073741824 ∧ 0 ≤ i.part ∧ i.part < 8)

theorem s58 (a b c : Int) : g58 a b c = some (idOk ⟨a, b, c⟩) := by
  rw [g58_eq]
  repeat' split
  all_goals (refine congrArg some ?_; rw [bool_iff]; simp only [idOk, cop_lss_t, cop_lss_f, cop_leq_t, cop_leq_f, cop_gtr_t, cop_gtr_f, cop_geq_t, cop_geq_f, cop_eql_t, cop_eql_f, cop_neq_t, cop_neq_f, Bool.not_eq_true, Bool.not_eq_false, Bool.not_eq_true', Bool.not_eq_false', Bool.and_eq_true, Bool.or_eq_true, decide_eq_true_eq, decide_eq_false_iff_not, Bool.false_eq_true, Bool.true_eq_false, Option.bind_some, Option.some.injEq, false_iff, true_iff, iff_false, iff_true] at *; omega)

theorem s101 (a : Int) : g101 a = some false := by
  rw [g101_eq]
  simp [cop]

def cmpI (a b : Int) : Int := if a < b then -1 else if b < a then 1 else 0

theorem s99 (a b : Int) : g99 a b = some (cmpI a b) := by
  rw [g99_eq]
  simp only [s101, Option.bind_some, Bool.false_eq_true, if_false]
  by_cases h1 : a < b
  · rw [if_pos (by simp only [cop_lss_t, cop_lss_f, cop_leq_t, cop_leq_f, cop_gtr_t, cop_gtr_f, cop_geq_t, cop_geq_f, cop_eql_t, cop_eql_f, cop_neq_t, cop_neq_f, Bool.not_eq_true, Bool.not_eq_false, Bool.not_eq_true', Bool.not_eq_false', Bool.and_eq_true, Bool.or_eq_true, decide_eq_true_eq, decide_eq_false_iff_not, Bool.false_eq_true, Bool.true_eq_false, Option.bind_some, Option.some.injEq, false_iff, true_iff, iff_false, iff_true]; omega), cmpI, if_pos h1]
  · by_cases h2 : b < a
    · rw [if_neg (by simp only [cop_lss_t, cop_lss_f, cop_leq_t, cop_leq_f, cop_gtr_t, cop_gtr_f, cop_geq_t, cop_geq_f, cop_eql_t, cop_eql_f, cop_neq_t, cop_neq_f, Bool.not_eq_true, Bool.not_eq_false, Bool.not_eq_true', Bool.not_eq_false', Bool.and_eq_true, Bool.or_eq_true, decide_eq_true_eq, decide_eq_false_iff_not, Bool.false_eq_true, Bool.true_eq_false, Option.bind_some, Option.some.injEq, false_iff, true_iff, iff_false, iff_true]; omega), if_pos (by simp only [cop_lss_t, cop_lss_f, cop_leq_t, cop_leq_f, cop_gtr_t, cop_gtr_f, cop_geq_t, cop_geq_f, cop_eql_t, cop_eql_f, cop_neq_t, cop_neq_f, Bool.not_eq_true, Bool.not_eq_false, Bool.not_eq_true', Bool.not_eq_false', Bool.and_eq_true, Bool.or_eq_true, decide_eq_true_eq, decide_eq_false_iff_not, Bool.false_eq_true, Bool.true_eq_false, Option.bind_some, Option.some.injEq, false_iff, true_iff, iff_false, iff_true]; omega), cmpI, if_neg h1, if_pos h2]
    · rw [if_neg (by simp only [cop_lss_t, cop_lss_f, cop_leq_t, cop_leq_f, cop_gtr_t, cop_gtr_f, cop_geq_t, cop_geq_f, cop_eql_t, cop_eql_f, cop_neq_t, cop_neq_f, Bool.not_eq_true, Bool.not_eq_false, Bool.not_eq_true', Bool.not_eq_false', Bool.and_eq_true, Bool.or_eq_true, decide_eq_true_eq, decide_eq_false_iff_not, Bool.false_eq_true, Bool.true_eq_false, Option.bind_some, Option.some.injEq, false_iff, true_iff, iff_false, iff_true]; omega), if_neg (by simp only [cop_lss_t, cop_lss_f, cop_leq_t, cop_leq_f, cop_gtr_t, cop_gtr_f, cop_geq_t, cop_geq_f, cop_eql_t, cop_eql_f, cop_neq_t, cop_neq_f, Bool.not_eq_true, Bool.not_eq_false, Bool.not_eq_true', Bool.not_eq_false', Bool.and_eq_true, Bool.or_eq_true, decide_eq_true_eq, decide_eq_false_iff_not, Bool.false_eq_true, Bool.true_eq_false, Option.bind_some, Option.some.injEq, false_iff, true_iff, iff_false, iff_true]; omega), cmpI, if_neg h1, if_neg h2]

def firstNZ (x y z : Int) : Int := if x ≠ 0 then x else if y ≠ 0 then y else z

theorem s98 (x y z : Int) : g98 (((([] : List (List AV)) ++ [[AV.val (.int .i64 x)]]) ++ [[AV.val (.int .i64 y)]]) ++ [[AV.val (.int .i64 z)]]) = some (firstNZ x y z) := by
  obtain ⟨f, hf⟩ := fuel6
  have e : (((([] : List (List AV)) ++ [[AV.val (.int .i64 x)]]) ++ [[AV.val (.int .i64 y)]]) ++ [[AV.val (.int .i64 z)]]) = [i64c x, i64c y, i64c z] := rfl
  have e1 : iop .add .i64 0 1 = 1 := by decide
  have e2 : iop .add .i64 1 1 = 2 := by decide
  have e3 : iop .add .i64 2 1 = 3 := by decide
  have hl : (([i64c x, i64c y, i64c z] : List (List AV)).length : Int) = 3 := rfl
  rw [g98_eq, e, hf, hl]
  rw [g98L0_eq, if_pos (by decide), elemK_at (sh := [.int .i64]) (cs := i64c x) (r := x) _ (by decide) rfl rfl]
  by_cases hx : x = 0
  · rw [if_neg (by simp only [cop_lss_t, cop_lss_f, cop_leq_t, cop_leq_f, cop_gtr_t, cop_gtr_f, cop_geq_t, cop_geq_f, cop_eql_t, cop_eql_f, cop_neq_t, cop_neq_f, Bool.not_eq_true, Bool.not_eq_false, Bool.not_eq_true', Bool.not_eq_false', Bool.and_eq_true, Bool.or_eq_true, decide_eq_true_eq, decide_eq_false_iff_not, Bool.false_eq_true, Bool.true_eq_false, Option.bind_some, Option.some.injEq, false_iff, true_iff, iff_false, iff_true]; omega), e1, g98L0_eq, if_pos (by decide), elemK_at (sh := [.int .i64]) (cs := i64c y) (r := y) _ (by decide) rfl rfl]
    by_cases hy : y = 0
    · rw [if_neg (by simp only [cop_lss_t, cop_lss_f, cop_leq_t, cop_leq_f, cop_gtr_t, cop_gtr_f, cop_geq_t, cop_geq_f, cop_eql_t, cop_eql_f, cop_neq_t, cop_neq_f, Bool.not_eq_true, Bool.not_eq_false, Bool.not_eq_true', Bool.not_eq_false', Bool.and_eq_true, Bool.or_eq_true, decide_eq_true_eq, decide_eq_false_iff_not, Bool.false_eq_true, Bool.true_eq_false, Option.bind_some, Option.some.injEq, false_iff, true_iff, iff_false, iff_true]; omega), e2, g98L0_eq, if_pos (by decide), elemK_at (sh := [.int .i64]) (cs := i64c z) (r := z) _ (by decide) rfl rfl]
      by_cases hz : z = 0
      · rw [if_neg (by simp only [cop_lss_t, cop_lss_f, cop_leq_t, cop_leq_f, cop_gtr_t, cop_gtr_f, cop_geq_t, cop_geq_f, cop_eql_t, cop_eql_f, cop_neq_t, cop_neq_f, Bool.not_eq_true, Bool.not_eq_false, Bool.not_eq_true', Bool.not_eq_false', Bool.and_eq_true, Bool.or_eq_true, decide_eq_true_eq, decide_eq_false_iff_not, Bool.false_eq_true, Bool.true_eq_false, Option.bind_some, Option.some.injEq, false_iff, true_iff, iff_false, iff_true]; omega), e3, g98L0_eq, if_neg (by decide)]
        simp [firstNZ, hx, hy, hz]
      · rw [if_pos (by simp only [cop_lss_t, cop_lss_f, cop_leq_t, cop_leq_f, cop_gtr_t, cop_gtr_f, cop_geq_t, cop_geq_f, cop_eql_t, cop_eql_f, cop_neq_t, cop_neq_f, Bool.not_eq_true, Bool.not_eq_false, Bool.not_eq_true', Bool.not_eq_false', Bool.and_eq_true, Bool.or_eq_true, decide_eq_true_eq, decide_eq_false_iff_not, Bool.false_eq_true, Bool.true_eq_false, Option.bind_some, Option.some.injEq, false_iff, true_iff, iff_false, iff_true]; omega)]
        simp [firstNZ, hx, hy]
    · rw [if_pos (by simp only [cop_lss_t, cop_lss_f, cop_leq_t, cop_leq_f, cop_gtr_t, cop_gtr_f, cop_geq_t, cop_geq_f, cop_eql_t, cop_eql_f, cop_neq_t, cop_neq_f, Bool.not_eq_true, Bool.not_eq_false, Bool.not_eq_true', Bool.not_eq_false', Bool.and_eq_true, Bool.or_eq_true, decide_eq_true_eq, decide_eq_false_iff_not, Bool.false_eq_true, Bool.true_eq_false, Option.bind_some, Option.some.injEq, false_iff, true_iff, iff_false, iff_true]; omega)]
      simp [firstNZ, hx, hy]
  · rw [if_pos (by simp only [cop_lss_t, cop_lss_f, cop_leq_t, cop_leq_f, cop_gtr_t, cop_gtr_f, cop_geq_t, cop_geq_f, cop_eql_t, cop_eql_f, cop_neq_t, cop_neq_f, Bool.not_eq_true, Bool.not_eq_false, Bool.not_eq_true', Bool.not_eq_false', Bool.and_eq_true, Bool.or_eq_true, decide_eq_true_eq, decide_eq_false_iff_not, Bool.false_eq_true, Bool.true_eq_false, Option.bind_some, Option.some.injEq, false_iff, true_iff, iff_false, iff_true]; omega)]
    simp [firstNZ, hx]

theorem s82 (a b c d e f : Int) : g82 a b c d e f = some (firstNZ (cmpI a d) (cmpI b e) (cmpI c f)) := by
  rw [g82_eq]
  simp only [s99, Option.bind_some, s98]

/-- node.Less -/
def idLt (a b c d e f : Int) : Bool := decide (a < d ∨ (a = d ∧ (b < e ∨ (b = e ∧ c < f))))

theorem s55 (a b c d e f : Int) : g55 a b c d e f = some (idLt a b c d e f) := by
  rw [g55_eq, s82, Option.bind_some]
  refine congrArg some ?_
  rw [bool_iff]
  simp only [idLt, cop_lss_t, cop_lss_f, cop_leq_t, cop_leq_f, cop_gtr_t, cop_gtr_f, cop_geq_t, cop_geq_f, cop_eql_t, cop_eql_f, cop_neq_t, cop_neq_f, Bool.not_eq_true, Bool.not_eq_false, Bool.not_eq_true', Bool.not_eq_false', Bool.and_eq_true, Bool.or_eq_true, decide_eq_true_eq, decide_eq_false_iff_not, Bool.false_eq_true, Bool.true_eq_false, Option.bind_some, Option.some.injEq, false_iff, true_iff, iff_false, iff_true, cmpI, firstNZ]
  repeat' split
  all_goals omega

theorem ids_len (l : List Id) : (idCells l).length = l.length := by simp [idCells]
theorem ids_take (l : List Id) (n : Nat) : (idCells l).take n = idCells (l.take n) := by simp [idCells, List.map_take]
theorem ids_at {l : List Id} {i : Nat} {x : Id} (h : l[i]? = some x) : (idCells l)[i]? = some (idc x) := by simp [idCells, h]

theorem elem_id {γ : Type} {l : List Id} {i : Int} {x : Id} (k : (Int × Int × Int) → Option γ) (h0 : 0 ≤ i) (h : l[i.toNat]? = some x) : elemK (idCells l) i idSh k = k (x.core, x.op, x.part) :=
  elemK_at (sh := idSh) (r := (x.core, x.op, x.part)) k h0 (ids_at h) rfl

theorem id_eqb (a b c d e f : Int) : ((cop .eql a d && (cop .eql b e && (cop .eql c f && true))) = true) ↔ ((⟨a, b, c⟩ : Id) = ⟨d, e, f⟩) := by
  simp only [cop_lss_t, cop_lss_f, cop_leq_t, cop_leq_f, cop_gtr_t, cop_gtr_f, cop_geq_t, cop_geq_f, cop_eql_t, cop_eql_f, cop_neq_t, cop_neq_f, Bool.not_eq_true, Bool.not_eq_false, Bool.not_eq_true', Bool.not_eq_false', Bool.and_eq_true, Bool.or_eq_true, decide_eq_true_eq, decide_eq_false_iff_not, Bool.false_eq_true, Bool.true_eq_false, Option.bind_some, Option.some.injEq, false_iff, true_iff, iff_false, iff_true, Id.mk.injEq, and_true]

theorem l96 {l : List Id} (hl : l.length < 2 ^ 62) (a b c : Int) : ∀ (j i fuel : Nat), l.length = i + j → j < fuel → ∃ r, g96L0 fuel (idCells l) a b c (l.length : Int) i = some r ∧ (0 ≤ r ↔ (⟨a, b, c⟩ : Id) ∈ l.drop i) := by
  intro j
  induction j with
  | zero =>
    intro i fuel h hf
    obtain ⟨f, rfl⟩ : ∃ f, fuel = f + 1 := ⟨fuel - 1, by omega⟩
    refine ⟨-1, by rw [g96L0_eq, if_neg (by simp only [cop_lss_t, cop_lss_f, cop_leq_t, cop_leq_f, cop_gtr_t, cop_gtr_f, cop_geq_t, cop_geq_f, cop_eql_t, cop_eql_f, cop_neq_t, cop_neq_f, Bool.not_eq_true, Bool.not_eq_false, Bool.not_eq_true', Bool.not_eq_false', Bool.and_eq_true, Bool.or_eq_true, decide_eq_true_eq, decide_eq_false_iff_not, Bool.false_eq_true, Bool.true_eq_false, Option.bind_some, Option.some.injEq, false_iff, true_iff, iff_false, iff_true]; omega)], ?_⟩
    rw [List.drop_of_length_le (by omega)]
    simp
  | succ j ih =>
    intro i fuel h hf
    obtain ⟨f, rfl⟩ : ∃ f, fuel = f + 1 := ⟨fuel - 1, by omega⟩
    have hi : i < l.length := by omega
    have hat : l[(i : Int).toNat]? = some l[i] := by simp
    have a4 : iop .add .i64 i 1 = ((i + 1 : Nat) : Int) := by rw [add_i (by omega) (by omega)]; omega
    rw [g96L0_eq, if_pos (by simp only [cop_lss_t, cop_lss_f, cop_leq_t, cop_leq_f, cop_gtr_t, cop_gtr_f, cop_geq_t, cop_geq_f, cop_eql_t, cop_eql_f, cop_neq_t, cop_neq_f, Bool.not_eq_true, Bool.not_eq_false, Bool.not_eq_true', Bool.not_eq_false', Bool.and_eq_true, Bool.or_eq_true, decide_eq_true_eq, decide_eq_false_iff_not, Bool.false_eq_true, Bool.true_eq_false, Option.bind_some, Option.some.injEq, false_iff, true_iff, iff_false, iff_true]; omega), elem_id _ (by omega) hat, a4, List.drop_eq_getElem_cons hi]
    by_cases he : (⟨a, b, c⟩ : Id) = l[i]
    · refine ⟨i, ?_, ?_⟩
      · rw [if_pos]
        rw [id_eqb]
        exact he
      · rw [List.mem_cons]
        exact ⟨fun _ => .inl he, fun _ => by omega⟩
    · obtain ⟨r, h1, h2⟩ := ih (i + 1) f (by omega) (by omega)
      refine ⟨r, ?_, ?_⟩
      · rw [if_neg, h1]
        rw [id_eqb]
        exact he
      · rw [h2, List.mem_cons]
        simp [he]

theorem s80 (l : List Id) (hl : l.length < 2 ^ 62) (a b c : Int) : g80 (idCells l) a b c = some (l.contains ⟨a, b, c⟩) := by
  obtain ⟨r, h1, h2⟩ := l96 hl a b c l.length 0 FUEL (by omega) (fuel_lt (by omega))
  rw [g80_eq, g96_eq, ids_len]
  have h1' : g96L0 FUEL (idCells l) a b c (l.length : Int) 0 = some r := h1
  rw [h1', Option.bind_some]
  refine congrArg some ?_
  rw [bool_iff]
  simp only [cop_lss_t, cop_lss_f, cop_leq_t, cop_leq_f, cop_gtr_t, cop_gtr_f, cop_geq_t, cop_geq_f, cop_eql_t, cop_eql_f, cop_neq_t, cop_neq_f, Bool.not_eq_true, Bool.not_eq_false, Bool.not_eq_true', Bool.not_eq_false', Bool.and_eq_true, Bool.or_eq_true, decide_eq_true_eq, decide_eq_false_iff_not, Bool.false_eq_true, Bool.true_eq_false, Option.bind_some, Option.some.injEq, false_iff, true_iff, iff_false, iff_true, List.contains_iff_mem]
  rw [List.drop_zero] at h2
  exact h2

structure Node where
  id : Id
  path : List Id
  cap : Cap

def pathAt (n : Node) (i : Nat) : Bool := match n.path[i]? with | none => true | some x => idOk x && decide (x ≠ n.id) && !(n.path.take i).contains x

/-- node.Valid -/
def nodeOk (n : Node) : Bool := idOk n.id && capOk n.cap && decide (n.path.length ≤ 8) && (List.range n.path.length).all (pathAt n)

theorem l49 (n : Node) (hl : n.path.length < 2 ^ 62) : ∀ (j i fuel : Nat), n.path.length = i + j → j < fuel →
    g49L0 fuel n.id.core n.id.op n.id.part (idCells n.path) n.cap.kind n.cap.base n.cap.bits n.cap.rights n.cap.width n.cap.level n.cap.device (idCells n.path) (n.path.length : Int) i = some ((List.range' i j).all (pathAt n)) := by
  intro j
  induction j with
  | zero =>
    intro i fuel h hf
    obtain ⟨f, rfl⟩ : ∃ f, fuel = f + 1 := ⟨fuel - 1, by omega⟩
    rw [g49L0_eq, if_neg (by simp only [cop_lss_t, cop_lss_f, cop_leq_t, cop_leq_f, cop_gtr_t, cop_gtr_f, cop_geq_t, cop_geq_f, cop_eql_t, cop_eql_f, cop_neq_t, cop_neq_f, Bool.not_eq_true, Bool.not_eq_false, Bool.not_eq_true', Bool.not_eq_false', Bool.and_eq_true, Bool.or_eq_true, decide_eq_true_eq, decide_eq_false_iff_not, Bool.false_eq_true, Bool.true_eq_false, Option.bind_some, Option.some.injEq, false_iff, true_iff, iff_false, iff_true]; omega)]
    rfl
  | succ j ih =>
    intro i fuel h hf
    obtain ⟨f, rfl⟩ : ∃ f, fuel = f + 1 := ⟨fuel - 1, by omega⟩
    have hi : i < n.path.length := by omega
    have hat : n.path[(i : Int).toNat]? = some n.path[i] := by simp
    have a4 : iop .add .i64 i 1 = ((i + 1 : Nat) : Int) := by rw [add_i (by omega) (by omega)]; omega
    have hp : pathAt n i = (idOk n.path[i] && decide (n.path[i] ≠ n.id) && !(n.path.take i).contains n.path[i]) := by
      unfold pathAt
      rw [List.getElem?_eq_getElem hi]
    have hlt : (n.path.take i).length < 2 ^ 62 := by rw [List.length_take]; omega
    rw [g49L0_eq, if_pos (by simp only [cop_lss_t, cop_lss_f, cop_leq_t, cop_leq_f, cop_gtr_t, cop_gtr_f, cop_geq_t, cop_geq_f, cop_eql_t, cop_eql_f, cop_neq_t, cop_neq_f, Bool.not_eq_true, Bool.not_eq_false, Bool.not_eq_true', Bool.not_eq_false', Bool.and_eq_true, Bool.or_eq_true, decide_eq_true_eq, decide_eq_false_iff_not, Bool.false_eq_true, Bool.true_eq_false, Option.bind_some, Option.some.injEq, false_iff, true_iff, iff_false, iff_true]; omega), elem_id _ (by omega) hat, a4, List.range'_succ, List.all_cons, hp]
    simp only [s58, Option.bind_some]
    cases h1 : idOk n.path[i] with
    | false => simp
    | true =>
      rw [if_neg (by simp)]
      by_cases h2 : n.path[i] = n.id
      · rw [if_pos (by rw [id_eqb]; exact h2)]
        simp [h2]
      · rw [if_neg (by rw [id_eqb]; exact h2), reqK_pos (by omega), reqK_pos (by rw [ids_len]; omega), Int.toNat_natCast, ids_take, s80 _ hlt, Option.bind_some]
        cases h3 : (n.path.take i).contains n.path[i] with
        | true => simp
        | false =>
          rw [if_neg (by simp)]
          have := ih (i + 1) f (by omega) (by omega)
          rw [this]
          simp [h2]

theorem s49 (n : Node) (hl : n.path.length < 2 ^ 62) : g49 n.id.core n.id.op n.id.part (idCells n.path) n.cap.kind n.cap.base n.cap.bits n.cap.rights n.cap.width n.cap.level n.cap.device = some (nodeOk n) := by
  rw [g49_eq]
  simp only [s58, s28, Option.bind_some, ids_len]
  unfold nodeOk
  cases h1 : idOk n.id with
  | false => simp [show (⟨n.id.core, n.id.op, n.id.part⟩ : Id) = n.id from rfl, h1]
  | true =>
    cases h2 : capOk n.cap with
    | false => simp [show (⟨n.id.core, n.id.op, n.id.part⟩ : Id) = n.id from rfl, h1, show (⟨n.cap.kind, n.cap.base, n.cap.bits, n.cap.rights, n.cap.width, n.cap.level, n.cap.device⟩ : Cap) = n.cap from rfl, h2]
    | true =>
      rw [if_neg (by simp), if_neg (by simp)]
      by_cases h3 : n.path.length ≤ 8
      · rw [if_neg (by simp only [cop_lss_t, cop_lss_f, cop_leq_t, cop_leq_f, cop_gtr_t, cop_gtr_f, cop_geq_t, cop_geq_f, cop_eql_t, cop_eql_f, cop_neq_t, cop_neq_f, Bool.not_eq_true, Bool.not_eq_false, Bool.not_eq_true', Bool.not_eq_false', Bool.and_eq_true, Bool.or_eq_true, decide_eq_true_eq, decide_eq_false_iff_not, Bool.false_eq_true, Bool.true_eq_false, Option.bind_some, Option.some.injEq, false_iff, true_iff, iff_false, iff_true]; omega)]
        have := l49 n hl n.path.length 0 FUEL (by omega) (fuel_lt (by omega))
        have e : (List.range' 0 n.path.length) = List.range n.path.length := (List.range_eq_range' ..).symm
        rw [e] at this
        refine this.trans ?_
        simp [h3]
      · rw [if_pos (by simp only [cop_lss_t, cop_lss_f, cop_leq_t, cop_leq_f, cop_gtr_t, cop_gtr_f, cop_geq_t, cop_geq_f, cop_eql_t, cop_eql_f, cop_neq_t, cop_neq_f, Bool.not_eq_true, Bool.not_eq_false, Bool.not_eq_true', Bool.not_eq_false', Bool.and_eq_true, Bool.or_eq_true, decide_eq_true_eq, decide_eq_false_iff_not, Bool.false_eq_true, Bool.true_eq_false, Option.bind_some, Option.some.injEq, false_iff, true_iff, iff_false, iff_true]; omega)]
        simp [h3]

theorem s50 (n : Node) (hl : n.path.length < 2 ^ 62) (a b c : Int) : g50 n.id.core n.id.op n.id.part (idCells n.path) n.cap.kind n.cap.base n.cap.bits n.cap.rights n.cap.width n.cap.level n.cap.device a b c = some (n.path.contains ⟨a, b, c⟩) := by
  rw [g50_eq, s80 _ hl, Option.bind_some]

theorem s78 (l : List Id) (hl : l.length ≤ 1000000) : g78 (idCells l) = some (idCells l) := by
  rw [g78_eq]
  refine nilK_of (fun h => ?_) ?_
  · rw [if_pos rfl, h]
  · rw [if_neg (by simp), reqK_pos (room_ok (by rw [ids_len, List.length_nil]; omega)), List.nil_append]

def childErr (n : Node) (i : Id) (c : Cap) : Int := if nodeOk n = false ∨ idOk i = false ∨ capOk c = false ∨ i = n.id ∨ n.path.contains i = true then 1 else if 8 ≤ n.path.length then 9 else 0

/-- node.Child -/
theorem s43 (n : Node) (hl : n.path.length < 2 ^ 62) (i : Id) (c : Cap) :
    g43 n.id.core n.id.op n.id.part (idCells n.path) n.cap.kind n.cap.base n.cap.bits n.cap.rights n.cap.width n.cap.level n.cap.device i.core i.op i.part c.kind c.base c.bits c.rights c.width c.level c.device =
      some (if childErr n i c = 0 then (i.core, i.op, i.part, idCells (n.path ++ [n.id]), c.kind, c.base, c.bits, c.rights, c.width, c.level, c.device, 0) else (0, 0, 0, [], 0, 0, 0, 0, 0, 0, false, childErr n i c)) := by
  rw [g43_eq]
  simp only [s49 n hl, s58, s28, s50 n hl, Option.bind_some, ids_len]
  refine ite_goal (fun h1 => ?_) fun h1 => ?_
  · have h1' : nodeOk n = false := by simpa using h1
    rw [show childErr n i c = 1 from if_pos (.inl h1')]; rfl
  have h1' : nodeOk n = true := by simpa using h1
  refine ite_goal (fun h2 => ?_) fun h2 => ?_
  · have h2' : idOk i = false := by simpa using h2
    rw [show childErr n i c = 1 from if_pos (.inr (.inl h2'))]; rfl
  have h2' : idOk i = true := by simpa using h2
  refine ite_goal (fun h3 => ?_) fun h3 => ?_
  · have h3' : capOk c = false := by simpa using h3
    rw [show childErr n i c = 1 from if_pos (.inr (.inr (.inl h3')))]; rfl
  have h3' : capOk c = true := by simpa using h3
  refine ite_goal (fun h4 => ?_) fun h4 => ?_
  · have h4' : i = n.id := by rw [id_eqb] at h4; exact h4
    rw [show childErr n i c = 1 from if_pos (.inr (.inr (.inr (.inl h4'))))]; rfl
  have h4' : ¬ i = n.id := by rw [id_eqb] at h4; exact h4
  refine ite_goal (fun h5 => ?_) fun h5 => ?_
  · have h5' : n.path.contains i = true := h5
    rw [show childErr n i c = 1 from if_pos (.inr (.inr (.inr (.inr h5'))))]; rfl
  have h5' : n.path.contains i = false := by simpa using h5
  have hn : ¬ (nodeOk n = false ∨ idOk i = false ∨ capOk c = false ∨ i = n.id ∨ n.path.contains i = true) := by
    rw [h1', h2', h3', h5']
    simp [h4']
  refine ite_goal (fun h6 => ?_) fun h6 => ?_
  · have h6' : 8 ≤ n.path.length := by simp only [cop_lss_t, cop_lss_f, cop_leq_t, cop_leq_f, cop_gtr_t, cop_gtr_f, cop_geq_t, cop_geq_f, cop_eql_t, cop_eql_f, cop_neq_t, cop_neq_f, Bool.not_eq_true, Bool.not_eq_false, Bool.not_eq_true', Bool.not_eq_false', Bool.and_eq_true, Bool.or_eq_true, decide_eq_true_eq, decide_eq_false_iff_not, Bool.false_eq_true, Bool.true_eq_false, Option.bind_some, Option.some.injEq, false_iff, true_iff, iff_false, iff_true] at h6; omega
    rw [show childErr n i c = 9 from (if_neg hn).trans (if_pos h6')]; rfl
  · have h6' : ¬ 8 ≤ n.path.length := by simp only [cop_lss_t, cop_lss_f, cop_leq_t, cop_leq_f, cop_gtr_t, cop_gtr_f, cop_geq_t, cop_geq_f, cop_eql_t, cop_eql_f, cop_neq_t, cop_neq_f, Bool.not_eq_true, Bool.not_eq_false, Bool.not_eq_true', Bool.not_eq_false', Bool.and_eq_true, Bool.or_eq_true, decide_eq_true_eq, decide_eq_false_iff_not, Bool.false_eq_true, Bool.true_eq_false, Option.bind_some, Option.some.injEq, false_iff, true_iff, iff_false, iff_true] at h6; omega
    rw [show childErr n i c = 0 from (if_neg hn).trans (if_neg h6'), if_pos rfl, s78 n.path (by omega), Option.bind_some, reqK_pos (room_ok (by rw [ids_len]; simp; omega))]
    simp [idCells, idc]

end Go.Proofs.Ytjfhdhplmibnfaa
end

section
namespace Go.Proofs.Ytjfhdhplmibnfaa
open Go Go.AM
set_option linter.unusedSimpArgs false
set_option linter.unusedVariables false

/-- The bytes of an integer: m groups of seven bits. -/
def uvm : Nat → Nat → List Int
  | 0, _ => []
  | 1, v => [((v % 128 : Nat) : Int)]
  | m + 2, v => ((v % 128 + 128 : Nat) : Int) :: uvm (m + 1) (v / 128)

def cnt : Nat → Nat → Nat
  | 0, _ => 0
  | k + 1, r => if r = 0 then 0 else 1 + cnt k (r / 128)

/-- binenc.AppendUvarint's bytes -/
def uvN (v : Nat) : Nat := 1 + cnt 10 (v / 128)
def uv (v : Nat) : List Int := uvm (uvN v) v

theorem cnt_le : ∀ (k r : Nat), cnt k r ≤ k
  | 0, _ => Nat.le_refl _
  | k + 1, r => by
    unfold cnt
    split
    · omega
    · have := cnt_le k (r / 128)
      omega

theorem uvm_len : ∀ (m v : Nat), (uvm m v).length = m
  | 0, _ => rfl
  | 1, _ => rfl
  | m + 2, v => by simp [uvm, uvm_len (m + 1)]

theorem uvm_bytes : ∀ (m v : Nat), Bytes (uvm m v)
  | 0, _ => by simp [uvm, Bytes]
  | 1, v => by
    intro z hz
    rw [uvm, List.mem_singleton] at hz
    omega
  | m + 2, v => by
    intro z hz
    rw [uvm, List.mem_cons] at hz
    rcases hz with rfl | hz
    · omega
    · exact uvm_bytes (m + 1) (v / 128) z hz

theorem shr7 (r : Nat) : iop .shr .u64 (r : Int) 7 = ((r / 128 : Nat) : Int) := by
  have hmin : min ((7 : Int)).toNat IntKind.u64.bits = 7 := by
    have : IntKind.u64.bits = 64 := rfl
    omega
  simp only [iop, hmin]
  rw [Int.fdiv_eq_ediv_of_nonneg _ (by decide)]
  rfl

theorem and127 (v : Nat) : IntKind.wrap .u8 (iop .and .u64 (v : Int) 127) = ((v % 128 : Nat) : Int) := by
  have h1 : (BitVec.ofInt 64 (v : Int) &&& BitVec.ofInt 64 127).toNat = v % 128 := by
    rw [BitVec.toNat_and, BitVec.toNat_ofInt, BitVec.toNat_ofInt]
    have h127 : ((127 : Int) % ((2 ^ 64 : Nat) : Int)).toNat = 2 ^ 7 - 1 := by decide
    rw [h127, Nat.and_two_pow_sub_one_eq_mod]
    have h65 : (2 : Nat) ^ 64 = 18446744073709551616 := by decide
    have h7 : (2 : Nat) ^ 7 = 128 := by decide
    rw [h65, h7]
    omega
  show IntKind.wrap .u8 (IntKind.wrap .u64 (((BitVec.ofInt 64 (v : Int) &&& BitVec.ofInt 64 127).toNat : Nat) : Int)) = _
  rw [h1, wrapu_of (by omega) (by have : (2 : Int) ^ 64 = 18446744073709551616 := by decide
                                  omega), wrap8]
  omega

theorem or128 {c : Nat} (h : c < 128) : iop .or .u8 (c : Int) 128 = ((c + 128 : Nat) : Int) := by
  have : ∀ c : Fin 128, iop .or .u8 ((c.val : Nat) : Int) 128 = ((c.val + 128 : Nat) : Int) := by decide +kernel
  exact this ⟨c, h⟩

theorem bytes_app (a b : List Int) : byteCells (a ++ b) = byteCells a ++ byteCells b := by simp [byteCells]
theorem bytes_both {a b : List Int} (ha : Bytes a) (hb : Bytes b) : Bytes (a ++ b) := by
  intro z hz
  rcases List.mem_append.1 hz with h | h
  · exact ha z h
  · exact hb z h

theorem set_byte : ∀ (a b : List Int) (y z : Int), setElem (byteCells (a ++ y :: b)) a.length 0 [AV.val (.int .u8 z)] = byteCells (a ++ z :: b)
  | [], b, y, z => by simp [setElem, byteCells, u8c, setCells, List.modify_zero_cons]
  | x :: a, b, y, z => by
    have ih := set_byte a b y z
    simp only [setElem, byteCells] at ih ⊢
    simp only [List.cons_append, List.map_cons, List.length_cons, List.modify_succ_cons, ih]

theorem l84a {x0 : List (List AV)} {v : Int} (hx : x0.length ≤ 1000000) : ∀ (k fuel r s : Nat), r < 128 ^ k → k < fuel → s + k ≤ 100 → ∀ (y : Option (List (List AV))),
    g84L0 FUEL x0 v ((s + cnt k r : Nat) : Int) 0 ((x0.length + (s + cnt k r) : Nat) : Int) ((x0.length + (s + cnt k r) : Nat) : Int) (splL (List.replicate (x0.length + (s + cnt k r)) [AV.val (.int .u8 0)]) x0) = y → g84L1 fuel x0 v s r = y := by
  have exit : ∀ (f s : Nat), s ≤ 100 → ∀ (y : Option (List (List AV))), g84L0 FUEL x0 v (s : Int) 0 ((x0.length + s : Nat) : Int) ((x0.length + s : Nat) : Int) (splL (List.replicate (x0.length + s) [AV.val (.int .u8 0)]) x0) = y → g84L1 (f + 1) x0 v s (0 : Nat) = y := by
    intro f s hs y hy
    have ha : iop .add .i64 (x0.length : Int) (s : Int) = ((x0.length + s : Nat) : Int) := by rw [add_i (by omega) (by omega)]; omega
    rw [g84L1_eq, if_neg (by decide), ha, reqK_pos ⟨by omega, by unfold roomMax; omega⟩, Int.toNat_natCast]
    exact hy
  intro k
  induction k with
  | zero =>
    intro fuel r s hr hf hs y hy
    obtain ⟨f, rfl⟩ : ∃ f, fuel = f + 1 := ⟨fuel - 1, by omega⟩
    have h0 : r = 0 := by simpa using hr
    subst h0
    exact exit f s (by omega) y hy
  | succ k ih =>
    intro fuel r s hr hf hs y hy
    obtain ⟨f, rfl⟩ : ∃ f, fuel = f + 1 := ⟨fuel - 1, by omega⟩
    by_cases h0 : r = 0
    · subst h0
      exact exit f s (by omega) y hy
    · have hc : cnt (k + 1) r = 1 + cnt k (r / 128) := by rw [cnt, if_neg h0]
      have hd : r / 128 < 128 ^ k := by
        rw [Nat.pow_succ] at hr
        exact Nat.div_lt_of_lt_mul (by omega)
      have a4 : iop .add .i64 (s : Int) 1 = ((s + 1 : Nat) : Int) := by rw [add_i (by omega) (by omega)]; omega
      rw [g84L1_eq, if_pos (by simp only [cop_lss_t, cop_lss_f, cop_leq_t, cop_leq_f, cop_gtr_t, cop_gtr_f, cop_geq_t, cop_geq_f, cop_eql_t, cop_eql_f, cop_neq_t, cop_neq_f, Bool.not_eq_true, Bool.not_eq_false, Bool.not_eq_true', Bool.not_eq_false', Bool.and_eq_true, Bool.or_eq_true, decide_eq_true_eq, decide_eq_false_iff_not, Bool.false_eq_true, Bool.true_eq_false, Option.bind_some, Option.some.injEq, false_iff, true_iff, iff_false, iff_true]; omega), reqK_pos (by decide), a4, shr7]
      refine ih f (r / 128) (s + 1) hd (by omega) (by omega) y ?_
      rw [hc] at hy
      rw [show s + 1 + cnt k (r / 128) = s + (1 + cnt k (r / 128)) by omega]
      exact hy

theorem l84b (l : List Int) {N C : Int} {size : Nat} (hl : l.length + size ≤ 2000000) (hN : N = ((l.length + size : Nat) : Int)) : ∀ (m fuel i v : Nat) (done : List Int), size = i + m → m < fuel → done.length = i →
    g84L0 fuel (byteCells l) (v : Int) (size : Int) (i : Int) N C (byteCells (l ++ done ++ List.replicate m 0)) = some (byteCells (l ++ done ++ uvm m v)) := by
  intro m
  induction m with
  | zero =>
    intro fuel i v done h hf hd
    obtain ⟨f, rfl⟩ : ∃ f, fuel = f + 1 := ⟨fuel - 1, by omega⟩
    rw [g84L0_eq, if_neg (by simp only [cop_lss_t, cop_lss_f, cop_leq_t, cop_leq_f, cop_gtr_t, cop_gtr_f, cop_geq_t, cop_geq_f, cop_eql_t, cop_eql_f, cop_neq_t, cop_neq_f, Bool.not_eq_true, Bool.not_eq_false, Bool.not_eq_true', Bool.not_eq_false', Bool.and_eq_true, Bool.or_eq_true, decide_eq_true_eq, decide_eq_false_iff_not, Bool.false_eq_true, Bool.true_eq_false, Option.bind_some, Option.some.injEq, false_iff, true_iff, iff_false, iff_true]; omega)]
    simp [uvm]
  | succ m ih =>
    intro fuel i v done h hf hd
    obtain ⟨f, rfl⟩ : ∃ f, fuel = f + 1 := ⟨fuel - 1, by omega⟩
    have a1 : iop .sub .i64 (size : Int) 1 = ((size - 1 : Nat) : Int) := by rw [sub_i (by omega) (by omega)]; omega
    have a2 : iop .add .i64 (l.length : Int) (i : Int) = ((l.length + i : Nat) : Int) := by rw [add_i (by omega) (by omega)]; omega
    have a3 : iop .add .i64 (i : Int) 1 = ((i + 1 : Nat) : Int) := by rw [add_i (by omega) (by omega)]; omega
    have hat : (l ++ done).length = l.length + i := by simp [hd]
    have hset : ∀ z : Int, setElem (byteCells (l ++ done ++ List.replicate (m + 1) 0)) (l.length + i) 0 [AV.val (.int .u8 z)] = byteCells (l ++ (done ++ [z]) ++ List.replicate m 0) := by
      intro z
      have := set_byte (l ++ done) (List.replicate m 0) 0 z
      rw [hat] at this
      rw [List.replicate_succ, this]
      simp [List.append_assoc]
    rw [g84L0_eq, if_pos (by simp only [cop_lss_t, cop_lss_f, cop_leq_t, cop_leq_f, cop_gtr_t, cop_gtr_f, cop_geq_t, cop_geq_f, cop_eql_t, cop_eql_f, cop_neq_t, cop_neq_f, Bool.not_eq_true, Bool.not_eq_false, Bool.not_eq_true', Bool.not_eq_false', Bool.and_eq_true, Bool.or_eq_true, decide_eq_true_eq, decide_eq_false_iff_not, Bool.false_eq_true, Bool.true_eq_false, Option.bind_some, Option.some.injEq, false_iff, true_iff, iff_false, iff_true]; omega), bytes_len, a1, a2, a3, shr7, Int.toNat_natCast, and127, or128 (Nat.mod_lt _ (by decide)), hset, hset]
    cases m with
    | zero =>
      rw [if_neg (by simp only [cop_lss_t, cop_lss_f, cop_leq_t, cop_leq_f, cop_gtr_t, cop_gtr_f, cop_geq_t, cop_geq_f, cop_eql_t, cop_eql_f, cop_neq_t, cop_neq_f, Bool.not_eq_true, Bool.not_eq_false, Bool.not_eq_true', Bool.not_eq_false', Bool.and_eq_true, Bool.or_eq_true, decide_eq_true_eq, decide_eq_false_iff_not, Bool.false_eq_true, Bool.true_eq_false, Option.bind_some, Option.some.injEq, false_iff, true_iff, iff_false, iff_true]; omega), reqK_pos (by omega), reqK_pos (by omega), reqK_pos (by omega), reqK_pos (by omega), reqK_pos (by decide)]
      have := ih f (i + 1) (v / 128) (done ++ [((v % 128 : Nat) : Int)]) (by omega) (by omega) (by simp [hd])
      rw [this]
      simp [uvm]
    | succ m =>
      rw [if_pos (by simp only [cop_lss_t, cop_lss_f, cop_leq_t, cop_leq_f, cop_gtr_t, cop_gtr_f, cop_geq_t, cop_geq_f, cop_eql_t, cop_eql_f, cop_neq_t, cop_neq_f, Bool.not_eq_true, Bool.not_eq_false, Bool.not_eq_true', Bool.not_eq_false', Bool.and_eq_true, Bool.or_eq_true, decide_eq_true_eq, decide_eq_false_iff_not, Bool.false_eq_true, Bool.true_eq_false, Option.bind_some, Option.some.injEq, false_iff, true_iff, iff_false, iff_true]; omega), reqK_pos (by omega), reqK_pos (by omega), reqK_pos (by omega), reqK_pos (by omega), reqK_pos (by decide)]
      have := ih f (i + 1) (v / 128) (done ++ [((v % 128 + 128 : Nat) : Int)]) (by omega) (by omega) (by simp [hd])
      rw [this]
      simp [uvm, List.append_assoc]

theorem splL_rep (l : List Int) (n : Nat) : splL (List.replicate (l.length + n) [AV.val (.int .u8 0)]) (byteCells l) = byteCells (l ++ List.replicate n 0) := by
  unfold splL
  rw [List.length_replicate, List.take_of_length_le (by rw [bytes_len]; omega), bytes_len, List.drop_replicate, bytes_app]
  have : l.length + n - l.length = n := by omega
  rw [this]
  congr 1
  simp [byteCells, u8c]

theorem s84 (l : List Int) (hl : l.length ≤ 1000000) (v : Nat) (hv : v < 2 ^ 64) : g84 (byteCells l) v = some (byteCells (l ++ uv v)) := by
  rw [g84_eq, reqK_pos (by decide), shr7]
  have h64 : (2 : Nat) ^ 64 = 18446744073709551616 := by decide
  have h128 : (128 : Nat) ^ 10 = 1180591620717411303424 := by decide
  refine l84a (by rw [bytes_len]; exact hl) 10 FUEL (v / 128) 1 (by omega) (fuel_lt (by decide)) (by decide) _ ?_
  rw [bytes_len, splL_rep]
  have hc := cnt_le 10 (v / 128)
  have := l84b l (N := ((l.length + (1 + cnt 10 (v / 128)) : Nat) : Int)) (C := ((l.length + (1 + cnt 10 (v / 128)) : Nat) : Int)) (size := 1 + cnt 10 (v / 128)) (by omega) rfl (1 + cnt 10 (v / 128)) FUEL 0 v [] (by omega) (fuel_lt (by omega)) rfl
  rw [List.append_nil] at this
  exact this

theorem uv_len (v : Nat) : (uv v).length = uvN v := uvm_len _ _
theorem uvN_le (v : Nat) : uvN v ≤ 11 := by have := cnt_le 10 (v / 128); unfold uvN; omega
theorem uv_bytes (v : Nat) : Bytes (uv v) := uvm_bytes _ _

/-- node.AppendId's bytes -/
def idB (i : Id) : List Int := uv i.core.toNat ++ uv i.op.toNat ++ uv i.part.toNat

theorem idB_le (i : Id) : (idB i).length ≤ 33 := by
  have h1 := uvN_le i.core.toNat
  have h2 := uvN_le i.op.toNat
  have h3 := uvN_le i.part.toNat
  simp only [idB, List.length_append, uv_len]
  omega

theorem s84' (l : List Int) (hl : l.length ≤ 1000000) (z : Int) (h0 : 0 ≤ z) (h1 : z < 2 ^ 63) : g84 (byteCells l) (IntKind.wrap .u64 z) = some (byteCells (l ++ uv z.toNat)) := by
  have h63 : (2 : Int) ^ 63 = 9223372036854775808 := by decide
  have h64 : (2 : Int) ^ 64 = 18446744073709551616 := by decide
  have h64' : (2 : Nat) ^ 64 = 18446744073709551616 := by decide
  have e : IntKind.wrap .u64 z = ((z.toNat : Nat) : Int) := by rw [wrapu_of h0 (by omega)]; omega
  rw [e]
  exact s84 l hl z.toNat (by omega)

theorem idOk_of {i : Id} (h : idOk i = true) : 0 ≤ i.core ∧ i.core < 32 ∧ 1 ≤ i.op ∧ i.op ≤ 1073741824 ∧ 0 ≤ i.part ∧ i.part < 8 := by simpa [idOk] using h

theorem s85 (l : List Int) (hl : l.length ≤ 900000) (i : Id) (hi : idOk i = true) : g85 (byteCells l) i.core i.op i.part = some (byteCells (l ++ idB i)) := by
  obtain ⟨h1, h2, h3, h4, h5, h6⟩ := idOk_of hi
  obtain ⟨f, hf⟩ := fuel6
  have h63 : (2 : Int) ^ 63 = 9223372036854775808 := by decide
  have u1 := uvN_le i.core.toNat
  have u2 := uvN_le i.op.toNat
  have e : (((([] : List (List AV)) ++ [[AV.val (.int .i64 i.core)]]) ++ [[AV.val (.int .i64 i.op)]]) ++ [[AV.val (.int .i64 i.part)]]) = [i64c i.core, i64c i.op, i64c i.part] := rfl
  have e1 : iop .add .i64 0 1 = 1 := by decide
  have e2 : iop .add .i64 1 1 = 2 := by decide
  have e3 : iop .add .i64 2 1 = 3 := by decide
  have hlen : (([i64c i.core, i64c i.op, i64c i.part] : List (List AV)).length : Int) = 3 := rfl
  rw [g85_eq, e, hf, hlen]
  rw [g85L0_eq, if_pos (by decide), elemK_at (sh := [.int .i64]) (cs := i64c i.core) (r := i.core) _ (by decide) rfl rfl, s84' l (by omega) i.core h1 (by omega), Option.bind_some, e1,
    g85L0_eq, if_pos (by decide), elemK_at (sh := [.int .i64]) (cs := i64c i.op) (r := i.op) _ (by decide) rfl rfl, s84' _ (by rw [List.length_append, uv_len]; omega) i.op (by omega) (by omega), Option.bind_some, e2,
    g85L0_eq, if_pos (by decide), elemK_at (sh := [.int .i64]) (cs := i64c i.part) (r := i.part) _ (by decide) rfl rfl, s84' _ (by rw [List.length_append, List.length_append, uv_len, uv_len]; omega) i.part (by omega) (by omega), Option.bind_some, e3,
    g85L0_eq, if_neg (by decide)]
  simp [idB, List.append_assoc]

/-- node.Encode's bytes -/
def nodeCode (n : Node) : List Int := idB n.id ++ uv n.path.length ++ (n.path.map idB).flatten ++ capCode n.cap
def nodeB (n : Node) : List Int := if nodeOk n = true then nodeCode n else []
def nodeE (n : Node) : Int := if nodeOk n = true then 0 else 1

theorem node_of {n : Node} (h : nodeOk n = true) : idOk n.id = true ∧ capOk n.cap = true ∧ n.path.length ≤ 8 ∧ ∀ i, i < n.path.length → pathAt n i = true := by
  simp only [nodeOk, Bool.and_eq_true, decide_eq_true_eq, List.all_eq_true, List.mem_range] at h
  exact ⟨h.1.1.1, h.1.1.2, h.1.2, h.2⟩

theorem path_ok {n : Node} (h : nodeOk n = true) (x : Id) (hx : x ∈ n.path) : idOk x = true := by
  obtain ⟨i, hi⟩ := List.mem_iff_getElem?.1 hx
  have := (node_of h).2.2.2 i (List.getElem?_eq_some_iff.1 hi).1
  unfold pathAt at this
  rw [hi] at this
  simp only [Bool.and_eq_true] at this
  exact this.1.1

theorem l63 (n : Node) (hn : nodeOk n = true) : ∀ (j i fuel : Nat) (acc : List Int), n.path.length = i + j → j < fuel → acc.length ≤ 1000 + 33 * i →
    g63L0 fuel n.id.core n.id.op n.id.part (idCells n.path) n.cap.kind n.cap.base n.cap.bits n.cap.rights n.cap.width n.cap.level n.cap.device (byteCells acc) (idCells n.path) (n.path.length : Int) i =
      some (byteCells (acc ++ ((n.path.drop i).map idB).flatten ++ capCode n.cap), 0) := by
  obtain ⟨h1, h2, h3, h4⟩ := node_of hn
  intro j
  induction j with
  | zero =>
    intro i fuel acc h hf ha
    obtain ⟨f, rfl⟩ : ∃ f, fuel = f + 1 := ⟨fuel - 1, by omega⟩
    have hb : encB ⟨n.cap.kind, n.cap.base, n.cap.bits, n.cap.rights, n.cap.width, n.cap.level, n.cap.device⟩ = capCode n.cap := by
      show encB n.cap = _
      unfold encB
      rw [if_pos h2]
    rw [g63L0_eq, if_neg (by simp only [cop_lss_t, cop_lss_f, cop_leq_t, cop_leq_f, cop_gtr_t, cop_gtr_f, cop_geq_t, cop_geq_f, cop_eql_t, cop_eql_f, cop_neq_t, cop_neq_f, Bool.not_eq_true, Bool.not_eq_false, Bool.not_eq_true', Bool.not_eq_false', Bool.and_eq_true, Bool.or_eq_true, decide_eq_true_eq, decide_eq_false_iff_not, Bool.false_eq_true, Bool.true_eq_false, Option.bind_some, Option.some.injEq, false_iff, true_iff, iff_false, iff_true]; omega), s38, Option.bind_some, hb, reqK_pos (room1 (by rw [bytes_len]; omega) (by rw [bytes_len]; simp [capCode])), List.drop_of_length_le (by omega)]
    simp [bytes_app]
  | succ j ih =>
    intro i fuel acc h hf ha
    obtain ⟨f, rfl⟩ : ∃ f, fuel = f + 1 := ⟨fuel - 1, by omega⟩
    have hi : i < n.path.length := by omega
    have hat : n.path[(i : Int).toNat]? = some n.path[i] := by simp
    have a4 : iop .add .i64 i 1 = ((i + 1 : Nat) : Int) := by rw [add_i (by omega) (by omega)]; omega
    have hx := path_ok hn n.path[i] (List.getElem_mem hi)
    have hle := idB_le n.path[i]
    rw [g63L0_eq, if_pos (by simp only [cop_lss_t, cop_lss_f, cop_leq_t, cop_leq_f, cop_gtr_t, cop_gtr_f, cop_geq_t, cop_geq_f, cop_eql_t, cop_eql_f, cop_neq_t, cop_neq_f, Bool.not_eq_true, Bool.not_eq_false, Bool.not_eq_true', Bool.not_eq_false', Bool.and_eq_true, Bool.or_eq_true, decide_eq_true_eq, decide_eq_false_iff_not, Bool.false_eq_true, Bool.true_eq_false, Option.bind_some, Option.some.injEq, false_iff, true_iff, iff_false, iff_true]; omega), elem_id _ (by omega) hat, s85 acc (by omega) _ hx, Option.bind_some, a4, ih (i + 1) f _ (by omega) (by omega) (by rw [List.length_append]; omega), List.drop_eq_getElem_cons hi]
    simp only [List.map_cons, List.flatten_cons, List.append_assoc]

theorem s63 (n : Node) (hl : n.path.length < 2 ^ 62) : g63 n.id.core n.id.op n.id.part (idCells n.path) n.cap.kind n.cap.base n.cap.bits n.cap.rights n.cap.width n.cap.level n.cap.device = some (byteCells (nodeB n), nodeE n) := by
  rw [g63_eq, s49 n hl, Option.bind_some]
  unfold nodeB nodeE
  cases hn : nodeOk n with
  | false => rfl
  | true =>
    obtain ⟨h1, h2, h3, h4⟩ := node_of hn
    have hle := idB_le n.id
    have hu := uvN_le n.path.length
    have e0 : ([] : List (List AV)) = byteCells [] := rfl
    rw [if_neg (by simp), e0, s85 [] (by simp) n.id h1, Option.bind_some, List.nil_append, ids_len, s84' _ (by omega) _ (by omega) (by omega), Option.bind_some, Int.toNat_natCast, if_pos rfl, if_pos rfl]
    have := l63 n hn n.path.length 0 FUEL (idB n.id ++ uv n.path.length) (by omega) (fuel_lt (by omega)) (by rw [List.length_append, uv_len]; omega)
    refine this.trans ?_
    rfl

/-- The sanity check. -/
theorem s42 : g42 = some true := by
  have hc : capOk ⟨2, 4096, 12, 3, 0, 0, false⟩ = true := by decide
  have hp : nodeOk ⟨⟨0, 1, 0⟩, [], ⟨2, 4096, 12, 3, 0, 0, false⟩⟩ = true := by decide
  have he : childErr ⟨⟨0, 1, 0⟩, [], ⟨2, 4096, 12, 3, 0, 0, false⟩⟩ ⟨0, 2, 0⟩ ⟨2, 4096, 12, 3, 0, 0, false⟩ = 0 := by decide
  have hk : nodeOk ⟨⟨0, 2, 0⟩, [⟨0, 1, 0⟩], ⟨2, 4096, 12, 3, 0, 0, false⟩⟩ = true := by decide
  have hlen : (nodeB ⟨⟨0, 2, 0⟩, [⟨0, 1, 0⟩], ⟨2, 4096, 12, 3, 0, 0, false⟩⟩).length = 17 := by decide
  have q43 := s43 ⟨⟨0, 1, 0⟩, [], ⟨2, 4096, 12, 3, 0, 0, false⟩⟩ (by decide) ⟨0, 2, 0⟩ ⟨2, 4096, 12, 3, 0, 0, false⟩
  rw [he, if_pos rfl] at q43
  have q63 := s63 ⟨⟨0, 2, 0⟩, [⟨0, 1, 0⟩], ⟨2, 4096, 12, 3, 0, 0, false⟩⟩ (by decide)
  have q49 := s49 ⟨⟨0, 2, 0⟩, [⟨0, 1, 0⟩], ⟨2, 4096, 12, 3, 0, 0, false⟩⟩ (by decide)
  have q50 := s50 ⟨⟨0, 2, 0⟩, [⟨0, 1, 0⟩], ⟨2, 4096, 12, 3, 0, 0, false⟩⟩ (by decide) 0 1 0
  have hne : nodeE ⟨⟨0, 2, 0⟩, [⟨0, 1, 0⟩], ⟨2, 4096, 12, 3, 0, 0, false⟩⟩ = 0 := by decide
  rw [hne] at q63
  rw [hk] at q49
  simp only [List.nil_append] at q43
  have e0 : idCells [] = [] := rfl
  simp only [e0] at q43
  rw [g42_eq, g48_eq, Option.bind_some, Option.bind_some]
  dsimp only
  rw [q43, Option.bind_some]
  dsimp only
  rw [q63, Option.bind_some]
  dsimp only
  rw [if_pos (by decide), if_pos (by decide), if_pos (by rw [bytes_len, hlen]; decide), q49, Option.bind_some, if_pos rfl, q50, Option.bind_some]
  rfl

end Go.Proofs.Ytjfhdhplmibnfaa
end

section
namespace Go.Proofs.Ytjfhdhplmibnfaa
open Go Go.AM
set_option linter.unusedSimpArgs false
set_option linter.unusedVariables false

theorem idLt_t (a b c d e f : Int) : (idLt a b c d e f = true) ↔ (a < d ∨ (a = d ∧ (b < e ∨ (b = e ∧ c < f)))) := by simp [idLt]
theorem idLt_f (a b c d e f : Int) : (idLt a b c d e f = false) ↔ ¬ (a < d ∨ (a = d ∧ (b < e ∨ (b = e ∧ c < f)))) := by simp only [idLt, decide_eq_false_iff_not]
theorem beq_t (x y : Bool) : ((x == y) = true) ↔ (x = true ↔ y = true) := by cases x <;> cases y <;> simp
theorem beq_f (x y : Bool) : ((x == y) = false) ↔ ¬ (x = true ↔ y = true) := by cases x <;> cases y <;> simp

theorem id_eqf (a b c d e f : Int) : ((cop .eql a d && (cop .eql b e && (cop .eql c f && true))) = false) ↔ ¬ (a = d ∧ b = e ∧ c = f) := by
  rw [← Bool.not_eq_true, id_eqb, Id.mk.injEq]

theorem s16 (x0 x1 x2 x3 x4 x5 x6 x7 x8 : Int) : g16 x0 x1 x2 x3 x4 x5 x6 x7 x8 = some true := by
  rw [g16_eq]
  simp only [s55, s42, Option.bind_some]
  repeat' (with_reducible refine ite_goal (fun _ => ?_) (fun _ => ?_))
  all_goals first
    | rfl
    | (exfalso; simp only [id_eqf, cop_lss_t, cop_lss_f, cop_leq_t, cop_leq_f, cop_gtr_t, cop_gtr_f, cop_geq_t, cop_geq_f, cop_eql_t, cop_eql_f, cop_neq_t, cop_neq_f, Bool.not_eq_true, Bool.not_eq_false, Bool.not_eq_true', Bool.not_eq_false', Bool.and_eq_true, Bool.or_eq_true, decide_eq_true_eq, decide_eq_false_iff_not, Bool.false_eq_true, Bool.true_eq_false, Option.bind_some, Option.some.injEq, false_iff, true_iff, iff_false, iff_true, Bool.not_not, beq_t, beq_f, idLt_t, idLt_f, and_true] at *; omega)

end Go.Proofs.Ytjfhdhplmibnfaa
end

section
namespace Go.Proofs.Ytjfhdhplmibnfaa
open Go Go.AM
set_option linter.unusedSimpArgs false
set_option linter.unusedVariables false

theorem s59 (a b c : Int) : g59 a b c = some (idOk ⟨a, b, c⟩) := by
  rw [g59_eq]
  repeat' split
  all_goals (refine congrArg some ?_; rw [bool_iff]; simp only [idOk, cop_lss_t, cop_lss_f, cop_leq_t, cop_leq_f, cop_gtr_t, cop_gtr_f, cop_geq_t, cop_geq_f, cop_eql_t, cop_eql_f, cop_neq_t, cop_neq_f, Bool.not_eq_true, Bool.not_eq_false, Bool.not_eq_true', Bool.not_eq_false', Bool.and_eq_true, Bool.or_eq_true, decide_eq_true_eq, decide_eq_false_iff_not, Bool.false_eq_true, Bool.true_eq_false, Option.bind_some, Option.some.injEq, false_iff, true_iff, iff_false, iff_true] at *; omega)

theorem l54 {l : List Id} (hl : l.length < 2 ^ 62) (a b c : Int) : ∀ (j i fuel : Nat), l.length = i + j → j < fuel → g54L0 fuel (idCells l) a b c i = some ((l.drop i).contains ⟨a, b, c⟩) := by
  intro j
  induction j with
  | zero =>
    intro i fuel h hf
    obtain ⟨f, rfl⟩ : ∃ f, fuel = f + 1 := ⟨fuel - 1, by omega⟩
    rw [g54L0_eq, if_neg (by simp only [cop_lss_t, cop_lss_f, cop_leq_t, cop_leq_f, cop_gtr_t, cop_gtr_f, cop_geq_t, cop_geq_f, cop_eql_t, cop_eql_f, cop_neq_t, cop_neq_f, Bool.not_eq_true, Bool.not_eq_false, Bool.not_eq_true', Bool.not_eq_false', Bool.and_eq_true, Bool.or_eq_true, decide_eq_true_eq, decide_eq_false_iff_not, Bool.false_eq_true, Bool.true_eq_false, Option.bind_some, Option.some.injEq, false_iff, true_iff, iff_false, iff_true, ids_len]; omega), List.drop_of_length_le (by omega)]
    rfl
  | succ j ih =>
    intro i fuel h hf
    obtain ⟨f, rfl⟩ : ∃ f, fuel = f + 1 := ⟨fuel - 1, by omega⟩
    have hi : i < l.length := by omega
    have hat : l[(i : Int).toNat]? = some l[i] := by simp
    have a4 : iop .add .i64 i 1 = ((i + 1 : Nat) : Int) := by rw [add_i (by omega) (by omega)]; omega
    rw [g54L0_eq, if_pos (by simp only [cop_lss_t, cop_lss_f, cop_leq_t, cop_leq_f, cop_gtr_t, cop_gtr_f, cop_geq_t, cop_geq_f, cop_eql_t, cop_eql_f, cop_neq_t, cop_neq_f, Bool.not_eq_true, Bool.not_eq_false, Bool.not_eq_true', Bool.not_eq_false', Bool.and_eq_true, Bool.or_eq_true, decide_eq_true_eq, decide_eq_false_iff_not, Bool.false_eq_true, Bool.true_eq_false, Option.bind_some, Option.some.injEq, false_iff, true_iff, iff_false, iff_true, ids_len]; omega), elem_id _ (by omega) hat, a4, List.drop_eq_getElem_cons hi, List.contains_cons]
    by_cases he : l[i] = (⟨a, b, c⟩ : Id)
    · rw [if_pos (by rw [id_eqb]; exact he)]
      simp [he]
    · rw [if_neg (by rw [id_eqb]; exact he), ih (i + 1) f (by omega) (by omega)]
      have : ((⟨a, b, c⟩ : Id) == l[i]) = false := by simp; exact fun h => he h.symm
      rw [this, Bool.false_or]

theorem s54 (l : List Id) (hl : l.length < 2 ^ 62) (a b c : Int) : g54 (idCells l) a b c = some (l.contains ⟨a, b, c⟩) := by
  have := l54 hl a b c l.length 0 FUEL (by omega) (fuel_lt (by omega))
  rw [g54_eq]
  exact this

def pathRef (n : Node) (i : Nat) : Bool := match n.path[i]? with | none => true | some x => idOk x && !(n.path.take i).contains x

theorem nodeOk_ref (n : Node) : nodeOk n = (idOk n.id && capOk n.cap && decide (n.path.length ≤ 8) && (!n.path.contains n.id && (List.range n.path.length).all (pathRef n))) := by
  unfold nodeOk
  congr 1
  rw [bool_iff]
  simp only [Bool.and_eq_true, List.all_eq_true, List.mem_range, Bool.not_eq_true', ← Bool.not_eq_true, List.contains_iff_mem]
  constructor
  · intro h
    refine ⟨fun hc => ?_, fun i hi => ?_⟩
    · obtain ⟨i, hi⟩ := List.mem_iff_getElem?.1 hc
      have := h i (List.getElem?_eq_some_iff.1 hi).1
      unfold pathAt at this
      rw [hi] at this
      simp at this
    · have := h i hi
      unfold pathAt at this
      unfold pathRef
      rw [List.getElem?_eq_getElem hi] at this ⊢
      simp only [Bool.and_eq_true] at this ⊢
      exact ⟨this.1.1, this.2⟩
  · intro ⟨h1, h2⟩ i hi
    have := h2 i hi
    unfold pathRef at this
    unfold pathAt
    rw [List.getElem?_eq_getElem hi] at this ⊢
    simp only [Bool.and_eq_true, decide_eq_true_eq] at this ⊢
    exact ⟨⟨this.1, fun he => h1 (he ▸ List.getElem_mem hi)⟩, this.2⟩

theorem l60 (n : Node) (hl : n.path.length < 2 ^ 62) : ∀ (j i fuel : Nat), n.path.length = i + j → j < fuel →
    g60L0 fuel n.id.core n.id.op n.id.part (idCells n.path) n.cap.kind n.cap.base n.cap.bits n.cap.rights n.cap.width n.cap.level n.cap.device i = some ((List.range' i j).all (pathRef n)) := by
  intro j
  induction j with
  | zero =>
    intro i fuel h hf
    obtain ⟨f, rfl⟩ : ∃ f, fuel = f + 1 := ⟨fuel - 1, by omega⟩
    rw [g60L0_eq, if_neg (by simp only [cop_lss_t, cop_lss_f, cop_leq_t, cop_leq_f, cop_gtr_t, cop_gtr_f, cop_geq_t, cop_geq_f, cop_eql_t, cop_eql_f, cop_neq_t, cop_neq_f, Bool.not_eq_true, Bool.not_eq_false, Bool.not_eq_true', Bool.not_eq_false', Bool.and_eq_true, Bool.or_eq_true, decide_eq_true_eq, decide_eq_false_iff_not, Bool.false_eq_true, Bool.true_eq_false, Option.bind_some, Option.some.injEq, false_iff, true_iff, iff_false, iff_true, ids_len]; omega)]
    rfl
  | succ j ih =>
    intro i fuel h hf
    obtain ⟨f, rfl⟩ : ∃ f, fuel = f + 1 := ⟨fuel - 1, by omega⟩
    have hi : i < n.path.length := by omega
    have hat : n.path[(i : Int).toNat]? = some n.path[i] := by simp
    have a4 : iop .add .i64 i 1 = ((i + 1 : Nat) : Int) := by rw [add_i (by omega) (by omega)]; omega
    have hp : pathRef n i = (idOk n.path[i] && !(n.path.take i).contains n.path[i]) := by
      unfold pathRef
      rw [List.getElem?_eq_getElem hi]
    have hlt : (n.path.take i).length < 2 ^ 62 := by rw [List.length_take]; omega
    rw [g60L0_eq, if_pos (by simp only [cop_lss_t, cop_lss_f, cop_leq_t, cop_leq_f, cop_gtr_t, cop_gtr_f, cop_geq_t, cop_geq_f, cop_eql_t, cop_eql_f, cop_neq_t, cop_neq_f, Bool.not_eq_true, Bool.not_eq_false, Bool.not_eq_true', Bool.not_eq_false', Bool.and_eq_true, Bool.or_eq_true, decide_eq_true_eq, decide_eq_false_iff_not, Bool.false_eq_true, Bool.true_eq_false, Option.bind_some, Option.some.injEq, false_iff, true_iff, iff_false, iff_true, ids_len]; omega), elem_id _ (by omega) hat, a4, List.range'_succ, List.all_cons, hp]
    simp only [s59, Option.bind_some]
    cases h1 : idOk n.path[i] with
    | false => simp
    | true =>
      rw [if_neg (by simp), reqK_pos (by omega), reqK_pos (by rw [ids_len]; omega), elem_id _ (by omega) hat, Int.toNat_natCast, ids_take, s54 _ hlt, Option.bind_some]
      cases h3 : (n.path.take i).contains n.path[i] with
      | true => simp
      | false =>
        rw [if_neg (by simp)]
        have := ih (i + 1) f (by omega) (by omega)
        rw [this]
        simp

theorem s60 (n : Node) (hl : n.path.length < 2 ^ 62) : g60 n.id.core n.id.op n.id.part (idCells n.path) n.cap.kind n.cap.base n.cap.bits n.cap.rights n.cap.width n.cap.level n.cap.device = some (nodeOk n) := by
  rw [g60_eq, nodeOk_ref]
  simp only [s59, s33, Option.bind_some, ids_len, s54 _ hl]
  cases h1 : idOk n.id with
  | false => simp [show (⟨n.id.core, n.id.op, n.id.part⟩ : Id) = n.id from rfl, h1]
  | true =>
    cases h2 : capOk n.cap with
    | false => simp [show (⟨n.id.core, n.id.op, n.id.part⟩ : Id) = n.id from rfl, h1, show (⟨n.cap.kind, n.cap.base, n.cap.bits, n.cap.rights, n.cap.width, n.cap.level, n.cap.device⟩ : Cap) = n.cap from rfl, h2]
    | true =>
      rw [if_neg (by simp), if_neg (by simp)]
      by_cases h3 : n.path.length ≤ 8
      · rw [if_neg (by simp only [cop_lss_t, cop_lss_f, cop_leq_t, cop_leq_f, cop_gtr_t, cop_gtr_f, cop_geq_t, cop_geq_f, cop_eql_t, cop_eql_f, cop_neq_t, cop_neq_f, Bool.not_eq_true, Bool.not_eq_false, Bool.not_eq_true', Bool.not_eq_false', Bool.and_eq_true, Bool.or_eq_true, decide_eq_true_eq, decide_eq_false_iff_not, Bool.false_eq_true, Bool.true_eq_false, Option.bind_some, Option.some.injEq, false_iff, true_iff, iff_false, iff_true]; omega)]
        cases h4 : n.path.contains n.id with
        | true => simp
        | false =>
          rw [if_neg (by simp)]
          have := l60 n hl n.path.length 0 FUEL (by omega) (fuel_lt (by omega))
          have e : (List.range' 0 n.path.length) = List.range n.path.length := (List.range_eq_range' ..).symm
          rw [e] at this
          refine this.trans ?_
          simp [h3]
      · rw [if_pos (by simp only [cop_lss_t, cop_lss_f, cop_leq_t, cop_leq_f, cop_gtr_t, cop_gtr_f, cop_geq_t, cop_geq_f, cop_eql_t, cop_eql_f, cop_neq_t, cop_neq_f, Bool.not_eq_true, Bool.not_eq_false, Bool.not_eq_true', Bool.not_eq_false', Bool.and_eq_true, Bool.or_eq_true, decide_eq_true_eq, decide_eq_false_iff_not, Bool.false_eq_true, Bool.true_eq_false, Option.bind_some, Option.some.injEq, false_iff, true_iff, iff_false, iff_true]; omega)]
        simp [h3]

theorem s56 (l : List Id) (hl : l.length ≤ 1000000) : g56 (idCells l) = some (idCells l) := by
  rw [g56_eq, reqK_pos (room_ok (by rw [ids_len, List.length_nil]; omega))]

theorem s44 (n : Node) (hl : n.path.length ≤ 1000000) : g44 n.id.core n.id.op n.id.part (idCells n.path) n.cap.kind n.cap.base n.cap.bits n.cap.rights n.cap.width n.cap.level n.cap.device =
    some (n.id.core, n.id.op, n.id.part, idCells n.path, n.cap.kind, n.cap.base, n.cap.bits, n.cap.rights, n.cap.width, n.cap.level, n.cap.device) := by
  rw [g44_eq, s56 _ hl, Option.bind_some]

/-- multikernelref10.Child -/
theorem s45 (n : Node) (hl : n.path.length < 2 ^ 62) (i : Id) (c : Cap) :
    g45 n.id.core n.id.op n.id.part (idCells n.path) n.cap.kind n.cap.base n.cap.bits n.cap.rights n.cap.width n.cap.level n.cap.device i.core i.op i.part c.kind c.base c.bits c.rights c.width c.level c.device =
      some (if childErr n i c = 0 then (i.core, i.op, i.part, idCells (n.path ++ [n.id]), c.kind, c.base, c.bits, c.rights, c.width, c.level, c.device, 0) else (0, 0, 0, [], 0, 0, 0, 0, 0, 0, false, childErr n i c)) := by
  rw [g45_eq]
  simp only [s60 n hl, s59, s33, s54 _ hl, Option.bind_some, ids_len]
  refine ite_goal (fun h1 => ?_) fun h1 => ?_
  · have h1' : nodeOk n = false := by simpa using h1
    rw [show childErr n i c = 1 from if_pos (.inl h1')]; rfl
  have h1' : nodeOk n = true := by simpa using h1
  have h8 := (node_of h1').2.2.1
  refine ite_goal (fun h2 => ?_) fun h2 => ?_
  · have h2' : idOk i = false := by simpa using h2
    rw [show childErr n i c = 1 from if_pos (.inr (.inl h2'))]; rfl
  have h2' : idOk i = true := by simpa using h2
  refine ite_goal (fun h3 => ?_) fun h3 => ?_
  · have h3' : capOk c = false := by simpa using h3
    rw [show childErr n i c = 1 from if_pos (.inr (.inr (.inl h3')))]; rfl
  have h3' : capOk c = true := by simpa using h3
  refine ite_goal (fun h4 => ?_) fun h4 => ?_
  · have h4' : i = n.id := by rw [id_eqb] at h4; exact h4
    rw [show childErr n i c = 1 from if_pos (.inr (.inr (.inr (.inl h4'))))]; rfl
  have h4' : ¬ i = n.id := by rw [id_eqb] at h4; exact h4
  refine ite_goal (fun h5 => ?_) fun h5 => ?_
  · have h5' : n.path.contains i = true := h5
    rw [show childErr n i c = 1 from if_pos (.inr (.inr (.inr (.inr h5'))))]; rfl
  have h5' : n.path.contains i = false := by simpa using h5
  have hn : ¬ (nodeOk n = false ∨ idOk i = false ∨ capOk c = false ∨ i = n.id ∨ n.path.contains i = true) := by
    rw [h1', h2', h3', h5']
    simp [h4']
  refine ite_goal (fun h6 => ?_) fun h6 => ?_
  · have h6' : 8 ≤ n.path.length := by simp only [cop_lss_t, cop_lss_f, cop_leq_t, cop_leq_f, cop_gtr_t, cop_gtr_f, cop_geq_t, cop_geq_f, cop_eql_t, cop_eql_f, cop_neq_t, cop_neq_f, Bool.not_eq_true, Bool.not_eq_false, Bool.not_eq_true', Bool.not_eq_false', Bool.and_eq_true, Bool.or_eq_true, decide_eq_true_eq, decide_eq_false_iff_not, Bool.false_eq_true, Bool.true_eq_false, Option.bind_some, Option.some.injEq, false_iff, true_iff, iff_false, iff_true] at h6; omega
    rw [show childErr n i c = 9 from (if_neg hn).trans (if_pos h6')]; rfl
  · have h6' : ¬ 8 ≤ n.path.length := by simp only [cop_lss_t, cop_lss_f, cop_leq_t, cop_leq_f, cop_gtr_t, cop_gtr_f, cop_geq_t, cop_geq_f, cop_eql_t, cop_eql_f, cop_neq_t, cop_neq_f, Bool.not_eq_true, Bool.not_eq_false, Bool.not_eq_true', Bool.not_eq_false', Bool.and_eq_true, Bool.or_eq_true, decide_eq_true_eq, decide_eq_false_iff_not, Bool.false_eq_true, Bool.true_eq_false, Option.bind_some, Option.some.injEq, false_iff, true_iff, iff_false, iff_true] at h6; omega
    rw [show childErr n i c = 0 from (if_neg hn).trans (if_neg h6'), if_pos rfl, s56 n.path (by omega), Option.bind_some, reqK_pos (room_ok (by rw [ids_len]; simp; omega))]
    simp [idCells, idc]

theorem l79 {l m : List Id} (hl : l.length < 2 ^ 62) (hm : l.length = m.length) : ∀ (j i fuel : Nat), l.length = i + j → j < fuel → g79L0 fuel (idCells l) (idCells m) i = some (decide (l.drop i = m.drop i)) := by
  intro j
  induction j with
  | zero =>
    intro i fuel h hf
    obtain ⟨f, rfl⟩ : ∃ f, fuel = f + 1 := ⟨fuel - 1, by omega⟩
    rw [g79L0_eq, if_neg (by simp only [cop_lss_t, cop_lss_f, cop_leq_t, cop_leq_f, cop_gtr_t, cop_gtr_f, cop_geq_t, cop_geq_f, cop_eql_t, cop_eql_f, cop_neq_t, cop_neq_f, Bool.not_eq_true, Bool.not_eq_false, Bool.not_eq_true', Bool.not_eq_false', Bool.and_eq_true, Bool.or_eq_true, decide_eq_true_eq, decide_eq_false_iff_not, Bool.false_eq_true, Bool.true_eq_false, Option.bind_some, Option.some.injEq, false_iff, true_iff, iff_false, iff_true, ids_len]; omega), List.drop_of_length_le (by omega), List.drop_of_length_le (by omega)]
    rfl
  | succ j ih =>
    intro i fuel h hf
    obtain ⟨f, rfl⟩ : ∃ f, fuel = f + 1 := ⟨fuel - 1, by omega⟩
    have hi : i < l.length := by omega
    have hi' : i < m.length := by omega
    have hat : l[(i : Int).toNat]? = some l[i] := by simp
    have hat' : m[(i : Int).toNat]? = some m[i] := by simp
    have a4 : iop .add .i64 i 1 = ((i + 1 : Nat) : Int) := by rw [add_i (by omega) (by omega)]; omega
    rw [g79L0_eq, if_pos (by simp only [cop_lss_t, cop_lss_f, cop_leq_t, cop_leq_f, cop_gtr_t, cop_gtr_f, cop_geq_t, cop_geq_f, cop_eql_t, cop_eql_f, cop_neq_t, cop_neq_f, Bool.not_eq_true, Bool.not_eq_false, Bool.not_eq_true', Bool.not_eq_false', Bool.and_eq_true, Bool.or_eq_true, decide_eq_true_eq, decide_eq_false_iff_not, Bool.false_eq_true, Bool.true_eq_false, Option.bind_some, Option.some.injEq, false_iff, true_iff, iff_false, iff_true, ids_len]; omega), elem_id _ (by omega) hat, elem_id _ (by omega) hat', a4, List.drop_eq_getElem_cons hi, List.drop_eq_getElem_cons hi']
    by_cases he : l[i] = m[i]
    · rw [if_neg (by rw [Bool.not_eq_true', ← Bool.not_eq_true, id_eqb]; exact fun h => h he), ih (i + 1) f (by omega) (by omega)]
      simp only [he, List.cons.injEq, true_and]
    · rw [if_pos (by rw [Bool.not_eq_true', ← Bool.not_eq_true, id_eqb]; exact he)]
      simp only [List.cons.injEq, he, false_and, decide_false]

theorem s79 (l m : List Id) (hl : l.length < 2 ^ 62) (hm : m.length < 2 ^ 62) : g79 (idCells l) (idCells m) = some (decide (l = m)) := by
  rw [g79_eq, ids_len, ids_len]
  by_cases h : l.length = m.length
  · rw [if_neg (by simp only [cop_lss_t, cop_lss_f, cop_leq_t, cop_leq_f, cop_gtr_t, cop_gtr_f, cop_geq_t, cop_geq_f, cop_eql_t, cop_eql_f, cop_neq_t, cop_neq_f, Bool.not_eq_true, Bool.not_eq_false, Bool.not_eq_true', Bool.not_eq_false', Bool.and_eq_true, Bool.or_eq_true, decide_eq_true_eq, decide_eq_false_iff_not, Bool.false_eq_true, Bool.true_eq_false, Option.bind_some, Option.some.injEq, false_iff, true_iff, iff_false, iff_true]; omega)]
    have := l79 hl h l.length 0 FUEL (by omega) (fuel_lt (by omega))
    rw [List.drop_zero, List.drop_zero] at this
    exact this
  · rw [if_pos (by simp only [cop_lss_t, cop_lss_f, cop_leq_t, cop_leq_f, cop_gtr_t, cop_gtr_f, cop_geq_t, cop_geq_f, cop_eql_t, cop_eql_f, cop_neq_t, cop_neq_f, Bool.not_eq_true, Bool.not_eq_false, Bool.not_eq_true', Bool.not_eq_false', Bool.and_eq_true, Bool.or_eq_true, decide_eq_true_eq, decide_eq_false_iff_not, Bool.false_eq_true, Bool.true_eq_false, Option.bind_some, Option.some.injEq, false_iff, true_iff, iff_false, iff_true]; omega)]
    have : ¬ l = m := fun he => h (by rw [he])
    simp [this]

theorem s46 (a b c : Int) (l : List Id) (hl : l.length < 2 ^ 62) (k bs s r w lv : Int) (d : Bool) : g46 a b c (idCells l) k bs s r w lv d a b c (idCells l) k bs s r w lv d = some true := by
  rw [g46_eq, s79 l l hl hl, if_pos (by simp [cop]), if_pos (by simp [cop]), Option.bind_some]
  simp

theorem s12 (a b c : Int) (p : List Id) (k bs s r w lv : Int) (d : Bool) (a' b' c' : Int) (k' bs' s' r' w' lv' : Int) (d' : Bool) : g12 a b c (idCells p) k bs s r w lv d a' b' c' k' bs' s' r' w' lv' d' = some true := by
  rw [g12_eq, ids_len, s42, Option.bind_some]
  refine ite_goal (fun _ => rfl) fun h => ?_
  have hp : p.length ≤ 40 := by simp only [cop_lss_t, cop_lss_f, cop_leq_t, cop_leq_f, cop_gtr_t, cop_gtr_f, cop_geq_t, cop_geq_f, cop_eql_t, cop_eql_f, cop_neq_t, cop_neq_f, Bool.not_eq_true, Bool.not_eq_false, Bool.not_eq_true', Bool.not_eq_false', Bool.and_eq_true, Bool.or_eq_true, decide_eq_true_eq, decide_eq_false_iff_not, Bool.false_eq_true, Bool.true_eq_false, Option.bind_some, Option.some.injEq, false_iff, true_iff, iff_false, iff_true] at h; omega
  have q44 := s44 ⟨⟨a, b, c⟩, p, ⟨k, bs, s, r, w, lv, d⟩⟩ (by show p.length ≤ _; omega)
  have q43 := s43 ⟨⟨a, b, c⟩, p, ⟨k, bs, s, r, w, lv, d⟩⟩ (by show p.length < _; omega) ⟨a', b', c'⟩ ⟨k', bs', s', r', w', lv', d'⟩
  have q45 := s45 ⟨⟨a, b, c⟩, p, ⟨k, bs, s, r, w, lv, d⟩⟩ (by show p.length < _; omega) ⟨a', b', c'⟩ ⟨k', bs', s', r', w', lv', d'⟩
  dsimp only at q43 q44 q45
  rw [q44, Option.bind_some]
  dsimp only
  rw [q43, q45, Option.bind_some, Option.bind_some]
  generalize childErr ⟨⟨a, b, c⟩, p, ⟨k, bs, s, r, w, lv, d⟩⟩ ⟨a', b', c'⟩ ⟨k', bs', s', r', w', lv', d'⟩ = e
  by_cases he : e = 0
  · rw [if_pos he]
    dsimp only
    rw [s46 _ _ _ _ (by simp; omega), Option.bind_some, if_pos rfl, if_pos (by simp [cop])]
  · rw [if_neg he]
    dsimp only
    have e0 : ([] : List (List AV)) = idCells [] := rfl
    rw [e0, s46 _ _ _ _ (by simp), Option.bind_some, if_pos rfl, if_pos (by simp [cop])]

end Go.Proofs.Ytjfhdhplmibnfaa
end

section
namespace Go.Proofs.Ytjfhdhplmibnfaa
open Go Go.AM
set_option linter.unusedSimpArgs false
set_option linter.unusedVariables false

def page : Cap := ⟨2, 4096, 12, 3, 0, 0, false⟩

theorem s48 : g48 = some (page.kind, page.base, page.bits, page.rights, page.width, page.level, page.device) := g48_eq

theorem s51 (a b c : Int) : g51 a b c = some (a % 4, 1 + b % 12, c % 3) := by
  rw [g51_eq, s24 a 4 (by omega) (by omega), Option.bind_some, s24 b 12 (by omega) (by omega), Option.bind_some, s24 c 3 (by omega) (by omega), Option.bind_some, add_i (by omega) (by omega)]

/-- The Ids of the chain, and its nodes. -/
def ida (c : Nat) (i : Nat) : Id := if i = 0 then ⟨c, 1, 0⟩ else ⟨5, i, 0⟩
def ndp (c i : Nat) : List Id := (List.range i).map (ida c)
def nd (c i : Nat) : Node := ⟨ida c i, ndp c i, page⟩

theorem child_nd : ∀ (c : Fin 4) (i : Fin 9), childErr (nd c.val i.val) (ida c.val (i.val + 1)) page = if i.val < 8 then 0 else 9 := by decide +kernel

theorem l14 (c : Nat) (hc : c < 4) (k : Nat) (hk : k < 12) : ∀ (j i fuel : Nat), k = i + j → j < fuel → i ≤ 8 →
    g14L0 fuel (ida c i).core (ida c i).op (ida c i).part (idCells (ndp c i)) page.kind page.base page.bits page.rights page.width page.level page.device (k : Int) (i : Int) = some true := by
  intro j
  induction j with
  | zero =>
    intro i fuel h hf hi
    obtain ⟨f, rfl⟩ : ∃ f, fuel = f + 1 := ⟨fuel - 1, by omega⟩
    have hl : (ndp c i).length = i := by simp [ndp]
    rw [g14L0_eq, if_neg (by simp only [cop_lss_t, cop_lss_f, cop_leq_t, cop_leq_f, cop_gtr_t, cop_gtr_f, cop_geq_t, cop_geq_f, cop_eql_t, cop_eql_f, cop_neq_t, cop_neq_f, Bool.not_eq_true, Bool.not_eq_false, Bool.not_eq_true', Bool.not_eq_false', Bool.and_eq_true, Bool.or_eq_true, decide_eq_true_eq, decide_eq_false_iff_not, Bool.false_eq_true, Bool.true_eq_false, Option.bind_some, Option.some.injEq, false_iff, true_iff, iff_false, iff_true]; omega), ids_len, hl, if_pos (by simp only [cop_lss_t, cop_lss_f, cop_leq_t, cop_leq_f, cop_gtr_t, cop_gtr_f, cop_geq_t, cop_geq_f, cop_eql_t, cop_eql_f, cop_neq_t, cop_neq_f, Bool.not_eq_true, Bool.not_eq_false, Bool.not_eq_true', Bool.not_eq_false', Bool.and_eq_true, Bool.or_eq_true, decide_eq_true_eq, decide_eq_false_iff_not, Bool.false_eq_true, Bool.true_eq_false, Option.bind_some, Option.some.injEq, false_iff, true_iff, iff_false, iff_true]; omega), s42]
    rfl
  | succ j ih =>
    intro i fuel h hf hi
    obtain ⟨f, rfl⟩ : ∃ f, fuel = f + 1 := ⟨fuel - 1, by omega⟩
    have hl : (ndp c i).length = i := by simp [ndp]
    have a4 : iop .add .i64 (i : Int) 1 = ((i + 1 : Nat) : Int) := by rw [add_i (by omega) (by omega)]; omega
    have hid : ida c (i + 1) = ⟨5, ((i + 1 : Nat) : Int), 0⟩ := by simp [ida]
    have he := child_nd ⟨c, hc⟩ ⟨i, by omega⟩
    dsimp only at he
    have q := s43 (nd c i) (by show (ndp c i).length < _; omega) (ida c (i + 1)) page
    have hnp : ndp c (i + 1) = ndp c i ++ [ida c i] := by simp [ndp, List.range_succ]
    have q' : g43 (ida c i).core (ida c i).op (ida c i).part (idCells (ndp c i)) page.kind page.base page.bits page.rights page.width page.level page.device 5 ((i + 1 : Nat) : Int) 0 page.kind page.base page.bits page.rights page.width page.level page.device =
      some (if childErr (nd c i) (ida c (i + 1)) page = 0 then ((ida c (i + 1)).core, (ida c (i + 1)).op, (ida c (i + 1)).part, idCells (ndp c (i + 1)), page.kind, page.base, page.bits, page.rights, page.width, page.level, page.device, 0) else (0, 0, 0, [], 0, 0, 0, 0, 0, 0, false, childErr (nd c i) (ida c (i + 1)) page)) := by
      rw [hnp]
      rw [hid] at q ⊢
      exact q
    rw [g14L0_eq, if_pos (by simp only [cop_lss_t, cop_lss_f, cop_leq_t, cop_leq_f, cop_gtr_t, cop_gtr_f, cop_geq_t, cop_geq_f, cop_eql_t, cop_eql_f, cop_neq_t, cop_neq_f, Bool.not_eq_true, Bool.not_eq_false, Bool.not_eq_true', Bool.not_eq_false', Bool.and_eq_true, Bool.or_eq_true, decide_eq_true_eq, decide_eq_false_iff_not, Bool.false_eq_true, Bool.true_eq_false, Option.bind_some, Option.some.injEq, false_iff, true_iff, iff_false, iff_true]; omega), s48, Option.bind_some]
    dsimp only
    rw [a4, q', Option.bind_some, he]
    by_cases h8 : i < 8
    · rw [if_pos h8, if_pos (rfl : (0 : Int) = 0)]
      dsimp only
      have hl' : (ndp c (i + 1)).length = i + 1 := by simp [ndp]
      rw [if_neg (by simp only [cop_lss_t, cop_lss_f, cop_leq_t, cop_leq_f, cop_gtr_t, cop_gtr_f, cop_geq_t, cop_geq_f, cop_eql_t, cop_eql_f, cop_neq_t, cop_neq_f, Bool.not_eq_true, Bool.not_eq_false, Bool.not_eq_true', Bool.not_eq_false', Bool.and_eq_true, Bool.or_eq_true, decide_eq_true_eq, decide_eq_false_iff_not, Bool.false_eq_true, Bool.true_eq_false, Option.bind_some, Option.some.injEq, false_iff, true_iff, iff_false, iff_true]; omega), if_neg (by decide), ids_len, hl', if_neg (by simp [cop])]
      exact ih (i + 1) f (by omega) (by omega) (by omega)
    · rw [if_neg h8, if_neg (show ¬ (9 : Int) = 0 by decide)]
      dsimp only
      rw [if_pos (by simp only [cop_lss_t, cop_lss_f, cop_leq_t, cop_leq_f, cop_gtr_t, cop_gtr_f, cop_geq_t, cop_geq_f, cop_eql_t, cop_eql_f, cop_neq_t, cop_neq_f, Bool.not_eq_true, Bool.not_eq_false, Bool.not_eq_true', Bool.not_eq_false', Bool.and_eq_true, Bool.or_eq_true, decide_eq_true_eq, decide_eq_false_iff_not, Bool.false_eq_true, Bool.true_eq_false, Option.bind_some, Option.some.injEq, false_iff, true_iff, iff_false, iff_true]; omega), if_pos (by decide), if_pos (by decide), s42]
      rfl

theorem s14 (x0 x1 : Int) : g14 x0 x1 = some true := by
  rw [g14_eq, s51, Option.bind_some, s48, Option.bind_some, s24 x1 12 (by omega) (by omega), Option.bind_some]
  dsimp only
  have h1 : 0 ≤ x0 % 4 ∧ x0 % 4 < 4 := by omega
  have h2 : 0 ≤ x1 % 12 ∧ x1 % 12 < 12 := by omega
  have := l14 (x0 % 4).toNat (by omega) (x1 % 12).toNat (by omega) (x1 % 12).toNat 0 FUEL (by omega) (fuel_lt (by omega)) (by omega)
  have e1 : ((x0 % 4).toNat : Int) = x0 % 4 := by omega
  have e2 : ((x1 % 12).toNat : Int) = x1 % 12 := by omega
  have e3 : ida (x0 % 4).toNat 0 = ⟨x0 % 4, 1, 0⟩ := by simp only [ida, if_true, e1]
  rw [e3, e2] at this
  exact this

end Go.Proofs.Ytjfhdhplmibnfaa
end

section
namespace Go.Proofs.Ytjfhdhplmibnfaa
open Go Go.AM
set_option linter.unusedSimpArgs false
set_option linter.unusedVariables false

def GoodIds (m : List Id) : Prop := (∀ x ∈ m, idOk x = true) ∧ m.Nodup ∧ m.length ≤ 8

theorem idOk_mk (a b c : Int) : idOk ⟨a % 4, 1 + b % 12, c % 3⟩ = true := by simp only [idOk, decide_eq_true_eq]; omega

theorem ints_at {l : List Int} {i : Nat} {z : Int} (h : l[i]? = some z) : (intCells l)[i]? = some (i64c z) := by simp [intCells, h]
theorem ints_len (l : List Int) : (intCells l).length = l.length := by simp [intCells]
theorem elem_i64 {γ : Type} {l : List Int} {i : Int} {z : Int} (k : Int → Option γ) (h0 : 0 ≤ i) (h : l[i.toNat]? = some z) : elemK (intCells l) i [.int .i64] k = k z :=
  elemK_at (sh := [.int .i64]) (r := z) k h0 (ints_at h) rfl

theorem ids_snoc (l : List Id) (x : Id) : idCells l ++ (([] : List (List AV)) ++ [[AV.val (.int .i64 x.core), AV.val (.int .i64 x.op), AV.val (.int .i64 x.part)]]) = idCells (l ++ [x]) := by
  simp [idCells, idc]

theorem l52 {l : List Int} (hl : l.length < 2 ^ 62) : ∀ (j i fuel : Nat) (acc : List Id), l.length = i + j → j < fuel → GoodIds acc → ∃ m, g52L0 fuel (intCells l) (idCells acc) i = some (idCells m) ∧ GoodIds m := by
  intro j
  induction j with
  | zero =>
    intro i fuel acc h hf ha
    obtain ⟨f, rfl⟩ : ∃ f, fuel = f + 1 := ⟨fuel - 1, by omega⟩
    exact ⟨acc, by rw [g52L0_eq, if_neg (by simp only [cop_lss_t, cop_lss_f, cop_leq_t, cop_leq_f, cop_gtr_t, cop_gtr_f, cop_geq_t, cop_geq_f, cop_eql_t, cop_eql_f, cop_neq_t, cop_neq_f, Bool.not_eq_true, Bool.not_eq_false, Bool.not_eq_true', Bool.not_eq_false', Bool.and_eq_true, Bool.or_eq_true, decide_eq_true_eq, decide_eq_false_iff_not, Bool.false_eq_true, Bool.true_eq_false, Option.bind_some, Option.some.injEq, false_iff, true_iff, iff_false, iff_true, ints_len]; omega)], ha⟩
  | succ j ih =>
    intro i fuel acc h hf ha
    obtain ⟨f, rfl⟩ : ∃ f, fuel = f + 1 := ⟨fuel - 1, by omega⟩
    have hi : i < l.length := by omega
    have hat : l[(i : Int).toNat]? = some l[i] := by simp
    have a4 : iop .add .i64 i 1 = ((i + 1 : Nat) : Int) := by rw [add_i (by omega) (by omega)]; omega
    have h8 := ha.2.2
    rw [g52L0_eq, if_pos (by simp only [cop_lss_t, cop_lss_f, cop_leq_t, cop_leq_f, cop_gtr_t, cop_gtr_f, cop_geq_t, cop_geq_f, cop_eql_t, cop_eql_f, cop_neq_t, cop_neq_f, Bool.not_eq_true, Bool.not_eq_false, Bool.not_eq_true', Bool.not_eq_false', Bool.and_eq_true, Bool.or_eq_true, decide_eq_true_eq, decide_eq_false_iff_not, Bool.false_eq_true, Bool.true_eq_false, Option.bind_some, Option.some.injEq, false_iff, true_iff, iff_false, iff_true, ints_len]; omega), ids_len]
    by_cases hlen : acc.length < 8
    · rw [if_pos (by simp only [cop_lss_t, cop_lss_f, cop_leq_t, cop_leq_f, cop_gtr_t, cop_gtr_f, cop_geq_t, cop_geq_f, cop_eql_t, cop_eql_f, cop_neq_t, cop_neq_f, Bool.not_eq_true, Bool.not_eq_false, Bool.not_eq_true', Bool.not_eq_false', Bool.and_eq_true, Bool.or_eq_true, decide_eq_true_eq, decide_eq_false_iff_not, Bool.false_eq_true, Bool.true_eq_false, Option.bind_some, Option.some.injEq, false_iff, true_iff, iff_false, iff_true]; omega), elem_i64 _ (by omega) hat, elem_i64 _ (by omega) hat, reqK_pos (by decide), elem_i64 _ (by omega) hat, reqK_pos (by decide), s51, Option.bind_some]
      dsimp only
      generalize hb : iop .quo .i64 l[i] 4 = b
      generalize hc : iop .quo .i64 l[i] 48 = c
      rw [s54 acc (by omega), Option.bind_some, a4]
      have hid := idOk_mk l[i] b c
      have hsn := ids_snoc acc ⟨l[i] % 4, 1 + b % 12, c % 3⟩
      dsimp only at hsn
      cases hcon : acc.contains (⟨l[i] % 4, 1 + b % 12, c % 3⟩ : Id) with
      | true =>
        rw [if_neg (by simp)]
        exact ih (i + 1) f acc (by omega) (by omega) ha
      | false =>
        rw [if_pos (by simp), reqK_pos (room_ok (by rw [ids_len]; simp; omega)), hsn]
        refine ih (i + 1) f _ (by omega) (by omega) ⟨fun x hx => ?_, ?_, by rw [List.length_append]; simp; omega⟩
        · rcases List.mem_append.1 hx with hx | hx
          · exact ha.1 x hx
          · rw [List.mem_singleton.1 hx]; exact hid
        · rw [List.nodup_append]
          refine ⟨ha.2.1, by simp, fun x hx y hy => ?_⟩
          rw [List.mem_singleton.1 hy]
          intro he
          subst he
          rw [← List.contains_iff_mem, hcon] at hx
          cases hx
    · rw [if_neg (by simp only [cop_lss_t, cop_lss_f, cop_leq_t, cop_leq_f, cop_gtr_t, cop_gtr_f, cop_geq_t, cop_geq_f, cop_eql_t, cop_eql_f, cop_neq_t, cop_neq_f, Bool.not_eq_true, Bool.not_eq_false, Bool.not_eq_true', Bool.not_eq_false', Bool.and_eq_true, Bool.or_eq_true, decide_eq_true_eq, decide_eq_false_iff_not, Bool.false_eq_true, Bool.true_eq_false, Option.bind_some, Option.some.injEq, false_iff, true_iff, iff_false, iff_true]; omega)]
      exact ⟨acc, rfl, ha⟩

theorem s52 (l : List Int) (hl : l.length < 2 ^ 62) : ∃ m, g52 (intCells l) = some (idCells m) ∧ GoodIds m := by
  obtain ⟨m, h1, h2⟩ := l52 hl l.length 0 FUEL [] (by omega) (fuel_lt (by omega)) ⟨by simp, by simp, by simp⟩
  exact ⟨m, by rw [g52_eq]; exact h1, h2⟩

theorem l47 {m : List Id} (hm : GoodIds m) (i : Id) (cp : Cap) (y0 y1 y2 : Int) (y3 : List (List AV)) (y4 y5 y6 y7 y8 y9 : Int) (y10 : Bool) : ∀ (j k fuel : Nat) (p : List Id), m.length = k + j → j < fuel → p.length ≤ k →
    g47L0 fuel y0 y1 y2 y3 y4 y5 y6 y7 y8 y9 y10 i.core i.op i.part (idCells p) cp.kind cp.base cp.bits cp.rights cp.width cp.level cp.device (idCells m) k =
      some (i.core, i.op, i.part, idCells (p ++ (m.drop k).filter fun x => decide (x ≠ i)), cp.kind, cp.base, cp.bits, cp.rights, cp.width, cp.level, cp.device) := by
  have h8 := hm.2.2
  intro j
  induction j with
  | zero =>
    intro k fuel p h hf hp
    obtain ⟨f, rfl⟩ : ∃ f, fuel = f + 1 := ⟨fuel - 1, by omega⟩
    rw [g47L0_eq, if_neg (by simp only [cop_lss_t, cop_lss_f, cop_leq_t, cop_leq_f, cop_gtr_t, cop_gtr_f, cop_geq_t, cop_geq_f, cop_eql_t, cop_eql_f, cop_neq_t, cop_neq_f, Bool.not_eq_true, Bool.not_eq_false, Bool.not_eq_true', Bool.not_eq_false', Bool.and_eq_true, Bool.or_eq_true, decide_eq_true_eq, decide_eq_false_iff_not, Bool.false_eq_true, Bool.true_eq_false, Option.bind_some, Option.some.injEq, false_iff, true_iff, iff_false, iff_true, ids_len]; omega), List.drop_of_length_le (by omega)]
    simp
  | succ j ih =>
    intro k fuel p h hf hp
    obtain ⟨f, rfl⟩ : ∃ f, fuel = f + 1 := ⟨fuel - 1, by omega⟩
    have hi : k < m.length := by omega
    have hat : m[(k : Int).toNat]? = some m[k] := by simp
    have a4 : iop .add .i64 k 1 = ((k + 1 : Nat) : Int) := by rw [add_i (by omega) (by omega)]; omega
    rw [g47L0_eq, if_pos (by simp only [cop_lss_t, cop_lss_f, cop_leq_t, cop_leq_f, cop_gtr_t, cop_gtr_f, cop_geq_t, cop_geq_f, cop_eql_t, cop_eql_f, cop_neq_t, cop_neq_f, Bool.not_eq_true, Bool.not_eq_false, Bool.not_eq_true', Bool.not_eq_false', Bool.and_eq_true, Bool.or_eq_true, decide_eq_true_eq, decide_eq_false_iff_not, Bool.false_eq_true, Bool.true_eq_false, Option.bind_some, Option.some.injEq, false_iff, true_iff, iff_false, iff_true, ids_len]; omega), elem_id _ (by omega) hat, a4, List.drop_eq_getElem_cons hi]
    by_cases he : m[k] = i
    · rw [if_neg (by rw [Bool.not_eq_true', ← Bool.not_eq_true, id_eqb]; exact fun h => h he), ih (k + 1) f p (by omega) (by omega) (by omega), List.filter_cons_of_neg (by simp [he])]
    · have hsn := ids_snoc p m[k]
      rw [if_pos (by rw [Bool.not_eq_true', ← Bool.not_eq_true, id_eqb]; exact he), s56 p (by omega), Option.bind_some, elem_id _ (by omega) hat, reqK_pos (room_ok (by rw [ids_len]; simp; omega))]
      dsimp only
      rw [hsn, ih (k + 1) f _ (by omega) (by omega) (by rw [List.length_append]; simp; omega), List.filter_cons_of_pos (by simp [he])]
      simp [List.append_assoc]

/-- make.Node's node -/
theorem made_ok {m : List Id} (hm : GoodIds m) {i : Id} (hi : idOk i = true) {cp : Cap} (hc : capOk cp = true) : nodeOk ⟨i, m.filter fun x => decide (x ≠ i), cp⟩ = true := by
  obtain ⟨h1, h2, h3⟩ := hm
  have hn : (m.filter fun x => decide (x ≠ i)).Nodup := h2.filter _
  have hl : (m.filter fun x => decide (x ≠ i)).length ≤ 8 := Nat.le_trans (List.length_filter_le _ _) h3
  have hmem : ∀ x ∈ m.filter (fun x => decide (x ≠ i)), idOk x = true ∧ x ≠ i := fun x hx => by
    rw [List.mem_filter] at hx
    exact ⟨h1 x hx.1, by simpa using hx.2⟩
  generalize m.filter (fun x => decide (x ≠ i)) = p at *
  simp only [nodeOk, Bool.and_eq_true, decide_eq_true_eq, List.all_eq_true, List.mem_range]
  refine ⟨⟨⟨hi, hc⟩, hl⟩, fun k hk => ?_⟩
  unfold pathAt
  rw [List.getElem?_eq_getElem hk]
  obtain ⟨a1, a2⟩ := hmem p[k] (List.getElem_mem hk)
  simp only [Bool.and_eq_true, decide_eq_true_eq, Bool.not_eq_true', ← Bool.not_eq_true, List.contains_iff_mem]
  refine ⟨⟨a1, a2⟩, fun hin => ?_⟩
  obtain ⟨j, hj⟩ := List.mem_iff_getElem?.1 hin
  rw [List.getElem?_take] at hj
  split at hj
  · rename_i hjk
    have hjl : j < p.length := by omega
    rw [List.getElem?_eq_getElem hjl] at hj
    simp only [Option.some.injEq] at hj
    exact (List.pairwise_iff_getElem.1 hn) j k hjl hk hjk hj
  · cases hj

theorem s47 (a b c : Int) (l : List Int) (hl : l.length < 2 ^ 62) (cp : Cap) (hc : capOk cp = true) : ∃ n : Node, nodeOk n = true ∧ n.cap = cp ∧
    g47 a b c (intCells l) cp.kind cp.base cp.bits cp.rights cp.width cp.level cp.device = some (n.id.core, n.id.op, n.id.part, idCells n.path, n.cap.kind, n.cap.base, n.cap.bits, n.cap.rights, n.cap.width, n.cap.level, n.cap.device) := by
  obtain ⟨m, h1, h2⟩ := s52 l hl
  have h8 := h2.2.2
  refine ⟨⟨⟨a % 4, 1 + b % 12, c % 3⟩, m.filter fun x => decide (x ≠ ⟨a % 4, 1 + b % 12, c % 3⟩), cp⟩, made_ok h2 (idOk_mk a b c) hc, rfl, ?_⟩
  rw [g47_eq, s51, Option.bind_some, h1, Option.bind_some]
  have := l47 h2 ⟨a % 4, 1 + b % 12, c % 3⟩ cp 0 0 0 ([] : List (List AV)) 0 0 0 0 0 0 false m.length 0 FUEL [] (by omega) (fuel_lt (by omega)) (Nat.le_refl _)
  exact this

theorem child_good {n : Node} {i : Id} {c : Cap} (h : childErr n i c = 0) : nodeOk n = true ∧ idOk i = true ∧ capOk c = true ∧ i ≠ n.id ∧ i ∉ n.path ∧ n.path.length < 8 := by
  unfold childErr at h
  split at h
  · cases h
  · rename_i hn
    split at h
    · cases h
    · rename_i h8
      refine ⟨?_, ?_, ?_, ?_, ?_, by omega⟩
      · cases hh : nodeOk n with
        | true => rfl
        | false => exact (hn (.inl hh)).elim
      · cases hh : idOk i with
        | true => rfl
        | false => exact (hn (.inr (.inl hh))).elim
      · cases hh : capOk c with
        | true => rfl
        | false => exact (hn (.inr (.inr (.inl hh)))).elim
      · exact fun hh => hn (.inr (.inr (.inr (.inl hh))))
      · exact fun hh => hn (.inr (.inr (.inr (.inr (List.contains_iff_mem.2 hh)))))

theorem child_ok {n : Node} {i : Id} {c : Cap} (h : childErr n i c = 0) : nodeOk ⟨i, n.path ++ [n.id], c⟩ = true := by
  obtain ⟨h1, h2, h3, h4, h5, h6⟩ := child_good h
  obtain ⟨g1, g2, g3, g4⟩ := node_of h1
  simp only [nodeOk, Bool.and_eq_true, decide_eq_true_eq, List.all_eq_true, List.mem_range]
  refine ⟨⟨⟨h2, h3⟩, by simp; omega⟩, fun k hk => ?_⟩
  unfold pathAt
  dsimp only
  by_cases hkp : k < n.path.length
  · have hg := g4 k hkp
    unfold pathAt at hg
    rw [List.getElem?_append_left hkp, List.take_append_of_le_length (by omega)]
    rw [List.getElem?_eq_getElem hkp] at hg ⊢
    simp only [Bool.and_eq_true, decide_eq_true_eq] at hg ⊢
    exact ⟨⟨hg.1.1, fun he => h5 (he ▸ List.getElem_mem hkp)⟩, hg.2⟩
  · have hke : k = n.path.length := by simp at hk; omega
    subst hke
    rw [List.getElem?_append_right (Nat.le_refl _), Nat.sub_self, List.getElem?_cons_zero, List.take_append_of_le_length (Nat.le_refl _), List.take_length]
    simp only [Bool.and_eq_true, decide_eq_true_eq, Bool.not_eq_true', ← Bool.not_eq_true, List.contains_iff_mem]
    refine ⟨⟨g1, fun he => h4 he.symm⟩, fun hin => ?_⟩
    obtain ⟨j, hj⟩ := List.mem_iff_getElem?.1 hin
    have hg := g4 j (List.getElem?_eq_some_iff.1 hj).1
    unfold pathAt at hg
    rw [hj] at hg
    simp at hg

theorem l13 {n ch : Node} (hl : n.path.length ≤ 8) (hcl : ch.path.length ≤ 9) (hsub : ∀ x ∈ n.path, x ∈ ch.path) (hch : ch.path = n.path ++ [n.id]) (o : Id) : ∀ (j k fuel : Nat), n.path.length = k + j → j < fuel →
    g13L0 fuel o.core o.op o.part n.id.core n.id.op n.id.part (idCells n.path) n.cap.kind n.cap.base n.cap.bits n.cap.rights n.cap.width n.cap.level n.cap.device
      ch.id.core ch.id.op ch.id.part (idCells ch.path) ch.cap.kind ch.cap.base ch.cap.bits ch.cap.rights ch.cap.width ch.cap.level ch.cap.device k = some true := by
  intro j
  induction j with
  | zero =>
    intro k fuel h hf
    obtain ⟨f, rfl⟩ : ∃ f, fuel = f + 1 := ⟨fuel - 1, by omega⟩
    rw [g13L0_eq, if_neg (by simp only [cop_lss_t, cop_lss_f, cop_leq_t, cop_leq_f, cop_gtr_t, cop_gtr_f, cop_geq_t, cop_geq_f, cop_eql_t, cop_eql_f, cop_neq_t, cop_neq_f, Bool.not_eq_true, Bool.not_eq_false, Bool.not_eq_true', Bool.not_eq_false', Bool.and_eq_true, Bool.or_eq_true, decide_eq_true_eq, decide_eq_false_iff_not, Bool.false_eq_true, Bool.true_eq_false, Option.bind_some, Option.some.injEq, false_iff, true_iff, iff_false, iff_true, ids_len]; omega), s50 ch (by omega), s50 n (by omega), Option.bind_some, Option.bind_some, s42]
    have e : (⟨o.core, o.op, o.part⟩ : Id) = o := rfl
    rw [e, hch]
    by_cases he : o = n.id
    · rw [if_pos (by rw [id_eqb]; exact he), if_pos (by simp [he])]
      rfl
    · have hc : (n.path ++ [n.id]).contains o = n.path.contains o := by
        rw [bool_iff, List.contains_iff_mem, List.contains_iff_mem, List.mem_append, List.mem_singleton]
        exact ⟨fun h => h.elim id fun h => (he h).elim, .inl⟩
      rw [if_neg (by rw [id_eqb]; exact he), hc, if_pos (by simp)]
      rfl
  | succ j ih =>
    intro k fuel h hf
    obtain ⟨f, rfl⟩ : ∃ f, fuel = f + 1 := ⟨fuel - 1, by omega⟩
    have hi : k < n.path.length := by omega
    have hat : n.path[(k : Int).toNat]? = some n.path[k] := by simp
    have a4 : iop .add .i64 k 1 = ((k + 1 : Nat) : Int) := by rw [add_i (by omega) (by omega)]; omega
    have hin : ch.path.contains n.path[k] = true := List.contains_iff_mem.2 (hsub _ (List.getElem_mem hi))
    rw [g13L0_eq, if_pos (by simp only [cop_lss_t, cop_lss_f, cop_leq_t, cop_leq_f, cop_gtr_t, cop_gtr_f, cop_geq_t, cop_geq_f, cop_eql_t, cop_eql_f, cop_neq_t, cop_neq_f, Bool.not_eq_true, Bool.not_eq_false, Bool.not_eq_true', Bool.not_eq_false', Bool.and_eq_true, Bool.or_eq_true, decide_eq_true_eq, decide_eq_false_iff_not, Bool.false_eq_true, Bool.true_eq_false, Option.bind_some, Option.some.injEq, false_iff, true_iff, iff_false, iff_true, ids_len]; omega), elem_id _ (by omega) hat, s50 ch (by omega), Option.bind_some, a4, if_neg]
    · exact ih (k + 1) f (by omega) (by omega)
    · have e : (⟨n.path[k].core, n.path[k].op, n.path[k].part⟩ : Id) = n.path[k] := rfl
      rw [e, hin]
      simp

theorem s13 (a b c : Int) (p : List Int) (i o : Id) : g13 a b c (intCells p) i.core i.op i.part o.core o.op o.part = some true := by
  rw [g13_eq, ints_len, s42, Option.bind_some]
  refine ite_goal (fun _ => rfl) fun h => ?_
  have hp : p.length ≤ 40 := by simp only [cop_lss_t, cop_lss_f, cop_leq_t, cop_leq_f, cop_gtr_t, cop_gtr_f, cop_geq_t, cop_geq_f, cop_eql_t, cop_eql_f, cop_neq_t, cop_neq_f, Bool.not_eq_true, Bool.not_eq_false, Bool.not_eq_true', Bool.not_eq_false', Bool.and_eq_true, Bool.or_eq_true, decide_eq_true_eq, decide_eq_false_iff_not, Bool.false_eq_true, Bool.true_eq_false, Option.bind_some, Option.some.injEq, false_iff, true_iff, iff_false, iff_true] at h; omega
  obtain ⟨n, h1, h2, h3⟩ := s47 a b c p (by omega) page (by decide)
  obtain ⟨g1, g2, g3, g4⟩ := node_of h1
  have q43 := s43 n (by omega) i page
  rw [s48, Option.bind_some]
  dsimp only
  rw [h3, Option.bind_some, Option.bind_some]
  dsimp only
  rw [q43, Option.bind_some]
  by_cases he : childErr n i page = 0
  · have q49 := s49 ⟨i, n.path ++ [n.id], page⟩ (by simp; omega)
    have q50 := s50 ⟨i, n.path ++ [n.id], page⟩ (by simp; omega) n.id.core n.id.op n.id.part
    have hcon : (n.path ++ [n.id]).contains (⟨n.id.core, n.id.op, n.id.part⟩ : Id) = true := List.contains_iff_mem.2 (by simp)
    dsimp only at q49 q50
    rw [child_ok he] at q49
    rw [hcon] at q50
    rw [if_pos he]
    dsimp only
    rw [if_neg (by decide), q49, Option.bind_some, if_neg (by decide), q50, Option.bind_some, if_neg (by decide), if_neg (by simp [cop]), Option.bind_some]
    dsimp only
    rw [if_neg (by decide)]
    exact l13 (n := n) (ch := ⟨i, n.path ++ [n.id], page⟩) (by omega) (by simp; omega) (fun x hx => by simp [hx]) rfl o n.path.length 0 FUEL (by omega) (fuel_lt (by omega))
  · rw [if_neg he]
    dsimp only
    rw [if_pos (by simp only [cop_lss_t, cop_lss_f, cop_leq_t, cop_leq_f, cop_gtr_t, cop_gtr_f, cop_geq_t, cop_geq_f, cop_eql_t, cop_eql_f, cop_neq_t, cop_neq_f, Bool.not_eq_true, Bool.not_eq_false, Bool.not_eq_true', Bool.not_eq_false', Bool.and_eq_true, Bool.or_eq_true, decide_eq_true_eq, decide_eq_false_iff_not, Bool.false_eq_true, Bool.true_eq_false, Option.bind_some, Option.some.injEq, false_iff, true_iff, iff_false, iff_true]; exact he), if_pos (by decide)]

end Go.Proofs.Ytjfhdhplmibnfaa
end

section
namespace Go.Proofs.Ytjfhdhplmibnfaa
open Go Go.AM
set_option linter.unusedSimpArgs false
set_option linter.unusedVariables false

theorem cnt_fuel : ∀ (k r : Nat), r < 128 ^ k → cnt (k + 1) r = cnt k r
  | 0, r, h => by
    have : r = 0 := by simpa using h
    subst this
    rfl
  | k + 1, r, h => by
    have e : ∀ (m r : Nat), cnt (m + 1) r = if r = 0 then 0 else 1 + cnt m (r / 128) := fun _ _ => rfl
    rw [e (k + 1) r, e k r]
    by_cases h0 : r = 0
    · rw [if_pos h0, if_pos h0]
    · have hd : r / 128 < 128 ^ k := by
        rw [Nat.pow_succ] at h
        exact Nat.div_lt_of_lt_mul (by omega)
      rw [if_neg h0, if_neg h0, cnt_fuel k _ hd]

theorem uv_step {v : Nat} (hv : v < 2 ^ 64) : uv v = if v < 128 then [(v : Int)] else ((v % 128 + 128 : Nat) : Int) :: uv (v / 128) := by
  have h64 : (2 : Nat) ^ 64 = 18446744073709551616 := by decide
  by_cases h : v < 128
  · rw [if_pos h]
    have h0 : v / 128 = 0 := by omega
    have hn : uvN v = 1 := by rw [uvN, h0]; rfl
    have hm : v % 128 = v := by omega
    rw [uv, hn, uvm, hm]
  · rw [if_neg h]
    have h0 : v / 128 ≠ 0 := by omega
    have hf : cnt 10 (v / 128 / 128) = cnt 9 (v / 128 / 128) := cnt_fuel 9 _ (by
      have : (128 : Nat) ^ 9 = 9223372036854775808 := by decide
      omega)
    have hn : uvN v = uvN (v / 128) + 1 := by rw [uvN, uvN, hf, cnt, if_neg h0]; omega
    have hn' : uvN v = (cnt 10 (v / 128 / 128)) + 2 := by rw [hn, uvN]; omega
    rw [uv, hn', uvm, uv, uvN]
    rw [show 1 + cnt 10 (v / 128 / 128) = cnt 10 (v / 128 / 128) + 1 by omega]

theorem uvN_step {v : Nat} (hv : v < 2 ^ 64) : uvN v = if v < 128 then 1 else uvN (v / 128) + 1 := by
  rw [← uv_len, uv_step hv]
  split
  · rfl
  · rw [List.length_cons, uv_len]

theorem l86 : ∀ (k fuel v : Nat) (l : List Int), v < 2 ^ 63 → v < 128 ^ (k + 1) → k < fuel → l.length + k ≤ 1000000 → g86L0 fuel (byteCells l) (v : Int) = some (byteCells (l ++ uv v)) := by
  have h63 : (2 : Nat) ^ 63 = 9223372036854775808 := by decide
  have h64 : (2 : Nat) ^ 64 = 18446744073709551616 := by decide
  have snoc : ∀ (l : List Int) (z : Int), byteCells l ++ (([] : List (List AV)) ++ [[AV.val (.int .u8 z)]]) = byteCells (l ++ [z]) := by intro l z; simp [byteCells, u8c]
  have small : ∀ (f v : Nat) (l : List Int), v < 128 → l.length ≤ 1000000 → g86L0 (f + 1) (byteCells l) (v : Int) = some (byteCells (l ++ uv v)) := by
    intro f v l hv hl
    have w : IntKind.wrap .u8 (v : Int) = (v : Int) := by rw [wrap8]; omega
    rw [g86L0_eq, if_neg (by simp only [cop_lss_t, cop_lss_f, cop_leq_t, cop_leq_f, cop_gtr_t, cop_gtr_f, cop_geq_t, cop_geq_f, cop_eql_t, cop_eql_f, cop_neq_t, cop_neq_f, Bool.not_eq_true, Bool.not_eq_false, Bool.not_eq_true', Bool.not_eq_false', Bool.and_eq_true, Bool.or_eq_true, decide_eq_true_eq, decide_eq_false_iff_not, Bool.false_eq_true, Bool.true_eq_false, Option.bind_some, Option.some.injEq, false_iff, true_iff, iff_false, iff_true]; omega), reqK_pos (room1 (by rw [bytes_len]; exact hl) (by simp)), w, snoc, uv_step (by omega), if_pos hv]
  intro k
  induction k with
  | zero =>
    intro fuel v l h1 h2 hf hl
    obtain ⟨f, rfl⟩ : ∃ f, fuel = f + 1 := ⟨fuel - 1, by omega⟩
    exact small f v l (by simpa using h2) (by omega)
  | succ k ih =>
    intro fuel v l h1 h2 hf hl
    obtain ⟨f, rfl⟩ : ∃ f, fuel = f + 1 := ⟨fuel - 1, by omega⟩
    by_cases hv : v < 128
    · exact small f v l hv (by omega)
    · have hd : v / 128 < 128 ^ (k + 1) := by
        rw [Nat.pow_succ] at h2
        exact Nat.div_lt_of_lt_mul (by omega)
      have e1 : iop .rem .i64 (v : Int) 128 = ((v % 128 : Nat) : Int) := by
        show (v : Int).tmod 128 = _
        rw [Int.tmod_eq_emod_of_nonneg (by omega)]
        omega
      have e2 : iop .add .i64 ((v % 128 : Nat) : Int) 128 = ((v % 128 + 128 : Nat) : Int) := by rw [add_i (by omega) (by omega)]; omega
      have e3 : IntKind.wrap .u8 ((v % 128 + 128 : Nat) : Int) = ((v % 128 + 128 : Nat) : Int) := by rw [wrap8]; omega
      have e4 : iop .quo .i64 (v : Int) 128 = ((v / 128 : Nat) : Int) := by
        show IntKind.wrap .i64 ((v : Int).tdiv 128) = _
        rw [Int.tdiv_eq_ediv_of_nonneg (by omega), wrap_of (by omega) (by omega)]
        omega
      rw [g86L0_eq, if_pos (by simp only [cop_lss_t, cop_lss_f, cop_leq_t, cop_leq_f, cop_gtr_t, cop_gtr_f, cop_geq_t, cop_geq_f, cop_eql_t, cop_eql_f, cop_neq_t, cop_neq_f, Bool.not_eq_true, Bool.not_eq_false, Bool.not_eq_true', Bool.not_eq_false', Bool.and_eq_true, Bool.or_eq_true, decide_eq_true_eq, decide_eq_false_iff_not, Bool.false_eq_true, Bool.true_eq_false, Option.bind_some, Option.some.injEq, false_iff, true_iff, iff_false, iff_true]; omega), reqK_pos (by decide), reqK_pos (room1 (by rw [bytes_len]; omega) (by simp)), reqK_pos (by decide), e1, e2, e3, e4, snoc,
        ih f (v / 128) _ (by omega) hd (by omega) (by rw [List.length_append]; simp; omega), uv_step (v := v) (by omega), if_neg hv]
      simp [List.append_assoc]

theorem s86 (l : List Int) (hl : l.length ≤ 900000) (z : Int) (h0 : 0 ≤ z) (h1 : z < 2 ^ 63) : g86 (byteCells l) z = some (byteCells (l ++ uv z.toNat)) := by
  have h63 : (2 : Int) ^ 63 = 9223372036854775808 := by decide
  have h63' : (2 : Nat) ^ 63 = 9223372036854775808 := by decide
  have h128 : (128 : Nat) ^ 11 = 151115727451828646838272 := by decide
  have e : z = ((z.toNat : Nat) : Int) := by omega
  rw [g86_eq]
  have := l86 10 FUEL z.toNat l (by omega) (by omega) (fuel_lt (by decide)) (by omega)
  rw [← e] at this
  exact this

theorem s87 (l : List Int) (hl : l.length ≤ 800000) (i : Id) (hi : idOk i = true) : g87 (byteCells l) i.core i.op i.part = some (byteCells (l ++ idB i)) := by
  obtain ⟨h1, h2, h3, h4, h5, h6⟩ := idOk_of hi
  have h63 : (2 : Int) ^ 63 = 9223372036854775808 := by decide
  have u1 := uvN_le i.core.toNat
  have u2 := uvN_le i.op.toNat
  rw [g87_eq, s86 l (by omega) i.core h1 (by omega), Option.bind_some, s86 _ (by rw [List.length_append, uv_len]; omega) i.op (by omega) (by omega), Option.bind_some,
    s86 _ (by rw [List.length_append, List.length_append, uv_len, uv_len]; omega) i.part (by omega) (by omega), Option.bind_some]
  simp [idB, List.append_assoc]

theorem l64 (n : Node) (hn : nodeOk n = true) : ∀ (j i fuel : Nat) (acc : List Int), n.path.length = i + j → j < fuel → acc.length ≤ 1000 + 33 * i →
    g64L0 fuel n.id.core n.id.op n.id.part (idCells n.path) n.cap.kind n.cap.base n.cap.bits n.cap.rights n.cap.width n.cap.level n.cap.device (byteCells acc) i =
      some (byteCells (acc ++ ((n.path.drop i).map idB).flatten ++ capCode n.cap), 0) := by
  obtain ⟨h1, h2, h3, h4⟩ := node_of hn
  intro j
  induction j with
  | zero =>
    intro i fuel acc h hf ha
    obtain ⟨f, rfl⟩ : ∃ f, fuel = f + 1 := ⟨fuel - 1, by omega⟩
    have hb : encB ⟨n.cap.kind, n.cap.base, n.cap.bits, n.cap.rights, n.cap.width, n.cap.level, n.cap.device⟩ = capCode n.cap := by
      show encB n.cap = _
      unfold encB
      rw [if_pos h2]
    rw [g64L0_eq, if_neg (by simp only [cop_lss_t, cop_lss_f, cop_leq_t, cop_leq_f, cop_gtr_t, cop_gtr_f, cop_geq_t, cop_geq_f, cop_eql_t, cop_eql_f, cop_neq_t, cop_neq_f, Bool.not_eq_true, Bool.not_eq_false, Bool.not_eq_true', Bool.not_eq_false', Bool.and_eq_true, Bool.or_eq_true, decide_eq_true_eq, decide_eq_false_iff_not, Bool.false_eq_true, Bool.true_eq_false, Option.bind_some, Option.some.injEq, false_iff, true_iff, iff_false, iff_true, ids_len]; omega), s39, Option.bind_some, hb, reqK_pos (room1 (by rw [bytes_len]; omega) (by rw [bytes_len]; simp [capCode])), List.drop_of_length_le (by omega)]
    simp [bytes_app]
  | succ j ih =>
    intro i fuel acc h hf ha
    obtain ⟨f, rfl⟩ : ∃ f, fuel = f + 1 := ⟨fuel - 1, by omega⟩
    have hi : i < n.path.length := by omega
    have hat : n.path[(i : Int).toNat]? = some n.path[i] := by simp
    have a4 : iop .add .i64 i 1 = ((i + 1 : Nat) : Int) := by rw [add_i (by omega) (by omega)]; omega
    have hx := path_ok hn n.path[i] (List.getElem_mem hi)
    have hle := idB_le n.path[i]
    rw [g64L0_eq, if_pos (by simp only [cop_lss_t, cop_lss_f, cop_leq_t, cop_leq_f, cop_gtr_t, cop_gtr_f, cop_geq_t, cop_geq_f, cop_eql_t, cop_eql_f, cop_neq_t, cop_neq_f, Bool.not_eq_true, Bool.not_eq_false, Bool.not_eq_true', Bool.not_eq_false', Bool.and_eq_true, Bool.or_eq_true, decide_eq_true_eq, decide_eq_false_iff_not, Bool.false_eq_true, Bool.true_eq_false, Option.bind_some, Option.some.injEq, false_iff, true_iff, iff_false, iff_true, ids_len]; omega), elem_id _ (by omega) hat, s87 acc (by omega) _ hx, Option.bind_some, a4, ih (i + 1) f _ (by omega) (by omega) (by rw [List.length_append]; omega), List.drop_eq_getElem_cons hi]
    simp only [List.map_cons, List.flatten_cons, List.append_assoc]

theorem s64 (n : Node) (hl : n.path.length < 2 ^ 62) : g64 n.id.core n.id.op n.id.part (idCells n.path) n.cap.kind n.cap.base n.cap.bits n.cap.rights n.cap.width n.cap.level n.cap.device = some (byteCells (nodeB n), nodeE n) := by
  rw [g64_eq, s60 n hl, Option.bind_some]
  unfold nodeB nodeE
  cases hn : nodeOk n with
  | false => rfl
  | true =>
    obtain ⟨h1, h2, h3, h4⟩ := node_of hn
    have hle := idB_le n.id
    have hu := uvN_le n.path.length
    have e0 : ([] : List (List AV)) = byteCells [] := rfl
    rw [if_neg (by simp), e0, s87 [] (by simp) n.id h1, Option.bind_some, List.nil_append, ids_len, s86 _ (by omega) _ (by omega) (by omega), Option.bind_some, Int.toNat_natCast, if_pos rfl, if_pos rfl]
    have := l64 n hn n.path.length 0 FUEL (idB n.id ++ uv n.path.length) (by omega) (fuel_lt (by omega)) (by rw [List.length_append, uv_len]; omega)
    refine this.trans ?_
    rfl

end Go.Proofs.Ytjfhdhplmibnfaa
end
