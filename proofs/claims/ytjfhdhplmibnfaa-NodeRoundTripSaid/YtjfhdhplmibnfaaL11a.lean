/- What the functions of capabilities compute, told in plain words. -/
import Derived.Test.YtjfhdhplmibnfaaF11a
import Derived.Test.YtjfhdhplmibnfaaEnd
namespace Go.Proofs.Ytjfhdhplmibnfaa
open Go Go.AM
set_option linter.unusedSimpArgs false
set_option linter.unusedVariables false

/-- captype.sizeAllowed -/
def sizeOk (k b : Int) : Bool := decide ((k = 1 ∧ 6 ≤ b ∧ b ≤ 40) ∨ (k = 2 ∧ 12 ≤ b ∧ b ≤ 40) ∨ (k = 3 ∧ b = 12) ∨ (k = 4 ∧ b = 6) ∨ (k = 5 ∧ b = 10) ∨ (k = 6 ∧ b = 16))

theorem s67 (k b : Int) : g67 k b = some (sizeOk k b) := by
  rw [g67_eq]
  repeat' split
  all_goals (refine congrArg some ?_; rw [bool_iff]; simp only [sizeOk, cop_lss_t, cop_lss_f, cop_leq_t, cop_leq_f, cop_gtr_t, cop_gtr_f, cop_geq_t, cop_geq_f, cop_eql_t, cop_eql_f, cop_neq_t, cop_neq_f, Bool.not_eq_true, Bool.not_eq_false, Bool.not_eq_true', Bool.not_eq_false', Bool.and_eq_true, Bool.or_eq_true, decide_eq_true_eq, decide_eq_false_iff_not, Bool.false_eq_true, Bool.true_eq_false, Option.bind_some, Option.some.injEq, false_iff, true_iff, iff_false, iff_true] at *; omega)

/-- multikernelref10.fixed -/
def fixedOf (k : Int) : Int := if k = 3 then 12 else if k = 4 then 6 else if k = 5 then 10 else if k = 6 then 16 else 0

theorem s94 (k : Int) : g94 k = some (fixedOf k) := by
  rw [g94_eq]
  simp only [cop_lss_t, cop_lss_f, cop_leq_t, cop_leq_f, cop_gtr_t, cop_gtr_f, cop_geq_t, cop_geq_f, cop_eql_t, cop_eql_f, cop_neq_t, cop_neq_f, Bool.not_eq_true, Bool.not_eq_false, Bool.not_eq_true', Bool.not_eq_false', Bool.and_eq_true, Bool.or_eq_true, decide_eq_true_eq, decide_eq_false_iff_not, Bool.false_eq_true, Bool.true_eq_false, Option.bind_some, Option.some.injEq, false_iff, true_iff, iff_false, iff_true, fixedOf]
  repeat' split
  all_goals first | rfl | omega

theorem s69 (k b : Int) : g69 k b = some (sizeOk k b) := by
  rw [g69_eq]
  simp only [s94, Option.bind_some]
  repeat' split
  all_goals (refine congrArg some ?_; rw [bool_iff]; simp only [sizeOk, cop_lss_t, cop_lss_f, cop_leq_t, cop_leq_f, cop_gtr_t, cop_gtr_f, cop_geq_t, cop_geq_f, cop_eql_t, cop_eql_f, cop_neq_t, cop_neq_f, Bool.not_eq_true, Bool.not_eq_false, Bool.not_eq_true', Bool.not_eq_false', Bool.and_eq_true, Bool.or_eq_true, decide_eq_true_eq, decide_eq_false_iff_not, Bool.false_eq_true, Bool.true_eq_false, Option.bind_some, Option.some.injEq, false_iff, true_iff, iff_false, iff_true] at *; first | omega | (rcases (by omega : k = 3 ∨ k = 4 ∨ k = 5 ∨ k = 6) with rfl | rfl | rfl | rfl <;> simp [fixedOf]))

/-- captype.formatAllowed -/
def formOk (w l : Int) : Bool := decide ((w = 32 ∧ 0 ≤ l ∧ l ≤ 1) ∨ (w = 39 ∧ 0 ≤ l ∧ l ≤ 2))

theorem s68 (w l : Int) : g68 w l = some (formOk w l) := by
  rw [g68_eq]
  repeat' split
  all_goals (refine congrArg some ?_; rw [bool_iff]; simp only [formOk, cop_lss_t, cop_lss_f, cop_leq_t, cop_leq_f, cop_gtr_t, cop_gtr_f, cop_geq_t, cop_geq_f, cop_eql_t, cop_eql_f, cop_neq_t, cop_neq_f, Bool.not_eq_true, Bool.not_eq_false, Bool.not_eq_true', Bool.not_eq_false', Bool.and_eq_true, Bool.or_eq_true, decide_eq_true_eq, decide_eq_false_iff_not, Bool.false_eq_true, Bool.true_eq_false, Option.bind_some, Option.some.injEq, false_iff, true_iff, iff_false, iff_true] at *; omega)

theorem s70 (w l : Int) : g70 w l = some (formOk w l) := by
  rw [g70_eq]
  repeat' split
  all_goals (refine congrArg some ?_; rw [bool_iff]; simp only [formOk, cop_lss_t, cop_lss_f, cop_leq_t, cop_leq_f, cop_gtr_t, cop_gtr_f, cop_geq_t, cop_geq_f, cop_eql_t, cop_eql_f, cop_neq_t, cop_neq_f, Bool.not_eq_true, Bool.not_eq_false, Bool.not_eq_true', Bool.not_eq_false', Bool.and_eq_true, Bool.or_eq_true, decide_eq_true_eq, decide_eq_false_iff_not, Bool.false_eq_true, Bool.true_eq_false, Option.bind_some, Option.some.injEq, false_iff, true_iff, iff_false, iff_true] at *; omega)

/-- memrange.Valid -/
def rngOk (a b : Int) : Bool := decide (6 ≤ b ∧ b ≤ 40 ∧ 0 ≤ a ∧ a % 2 ^ b.toNat = 0 ∧ a + 2 ^ b.toNat ≤ 1099511627776)

theorem pow_hi {b : Int} (h : b ≤ 40) : (2 : Int) ^ b.toNat ≤ 1099511627776 := by
  have := pow_le2 (m := b.toNat) (n := 40) (by omega)
  have e : (2 : Int) ^ 40 = 1099511627776 := by decide
  omega

theorem rem_pow {a : Int} {n : Nat} (h : 0 ≤ a) : iop .rem .i64 a (2 ^ n) = a % 2 ^ n := Int.tmod_eq_emod_of_nonneg h

theorem sub_hi {b : Int} (h : b ≤ 40) : iop .sub .i64 1099511627776 (2 ^ b.toNat) = 1099511627776 - 2 ^ b.toNat := by
  have := pow_hi h
  have := pow_pos2 b.toNat
  exact wrap_of (by omega) (by omega)

theorem s71 (a b : Int) : g71 a b = some (rngOk a b) := by
  have hp := pow_pos2 b.toNat
  rw [g71_eq]
  by_cases h1 : 6 ≤ b ∧ b ≤ 40 ∧ 0 ≤ a
  · obtain ⟨h1, h2, h3⟩ := h1
    have hs : iop .shl .i64 1 b = 2 ^ b.toNat := shl1 (by omega)
    have hr : reqK ((0 : Int) ≤ b) = fun (x : Option Bool) => x := funext fun x => reqK_pos (by omega) x
    have hn : reqK (((2 : Int) ^ b.toNat) ≠ 0) = fun (x : Option Bool) => x := funext fun x => reqK_pos (by omega) x
    simp only [hs, hr, hn, rem_pow h3, sub_hi h2]
    repeat' split
    all_goals (refine congrArg some ?_; rw [bool_iff]; simp only [rngOk, cop_lss_t, cop_lss_f, cop_leq_t, cop_leq_f, cop_gtr_t, cop_gtr_f, cop_geq_t, cop_geq_f, cop_eql_t, cop_eql_f, cop_neq_t, cop_neq_f, Bool.not_eq_true, Bool.not_eq_false, Bool.not_eq_true', Bool.not_eq_false', Bool.and_eq_true, Bool.or_eq_true, decide_eq_true_eq, decide_eq_false_iff_not, Bool.false_eq_true, Bool.true_eq_false, Option.bind_some, Option.some.injEq, false_iff, true_iff, iff_false, iff_true] at *; omega)
  · have hf : rngOk a b = false := by simp only [rngOk, decide_eq_false_iff_not]; omega
    rw [hf]
    repeat' split
    all_goals first | rfl | (exfalso; simp only [cop_lss_t, cop_lss_f, cop_leq_t, cop_leq_f, cop_gtr_t, cop_gtr_f, cop_geq_t, cop_geq_f, cop_eql_t, cop_eql_f, cop_neq_t, cop_neq_f, Bool.not_eq_true, Bool.not_eq_false, Bool.not_eq_true', Bool.not_eq_false', Bool.and_eq_true, Bool.or_eq_true, decide_eq_true_eq, decide_eq_false_iff_not, Bool.false_eq_true, Bool.true_eq_false, Option.bind_some, Option.some.injEq, false_iff, true_iff, iff_false, iff_true] at *; omega)

theorem s75 (a b : Int) : g75 a b = some (rngOk a b) := by
  have hp := pow_pos2 b.toNat
  rw [g75_eq]
  by_cases h1 : 6 ≤ b ∧ b ≤ 40 ∧ 0 ≤ a
  · obtain ⟨h1, h2, h3⟩ := h1
    have hw : IntKind.wrap .u64 b = b := wrapu_of (by omega) (by omega)
    have hs : iop .shl .i64 1 b = 2 ^ b.toNat := shl1 (by omega)
    have hr : reqK ((0 : Int) ≤ b) = fun (x : Option Bool) => x := funext fun x => reqK_pos (by omega) x
    have hn : reqK (((2 : Int) ^ b.toNat) ≠ 0) = fun (x : Option Bool) => x := funext fun x => reqK_pos (by omega) x
    have h40 := pow_hi h2
    simp only [hw, hs, hr, hn, rem_pow h3]
    repeat' split
    all_goals (refine congrArg some ?_; rw [bool_iff]; simp only [rngOk, cop_lss_t, cop_lss_f, cop_leq_t, cop_leq_f, cop_gtr_t, cop_gtr_f, cop_geq_t, cop_geq_f, cop_eql_t, cop_eql_f, cop_neq_t, cop_neq_f, Bool.not_eq_true, Bool.not_eq_false, Bool.not_eq_true', Bool.not_eq_false', Bool.and_eq_true, Bool.or_eq_true, decide_eq_true_eq, decide_eq_false_iff_not, Bool.false_eq_true, Bool.true_eq_false, Option.bind_some, Option.some.injEq, false_iff, true_iff, iff_false, iff_true] at *; first | omega | (rw [add_i (by omega) (by omega)] at *; omega))
  · have hf : rngOk a b = false := by simp only [rngOk, decide_eq_false_iff_not]; omega
    rw [hf]
    repeat' split
    all_goals first | rfl | (exfalso; simp only [cop_lss_t, cop_lss_f, cop_leq_t, cop_leq_f, cop_gtr_t, cop_gtr_f, cop_geq_t, cop_geq_f, cop_eql_t, cop_eql_f, cop_neq_t, cop_neq_f, Bool.not_eq_true, Bool.not_eq_false, Bool.not_eq_true', Bool.not_eq_false', Bool.and_eq_true, Bool.or_eq_true, decide_eq_true_eq, decide_eq_false_iff_not, Bool.false_eq_true, Bool.true_eq_false, Option.bind_some, Option.some.injEq, false_iff, true_iff, iff_false, iff_true] at *; omega)

/-- memrange.End -/
def rngEnd (a b : Int) : Int := if rngOk a b = true then a + 2 ^ b.toNat else 0

theorem rngOk_of {a b : Int} (h : rngOk a b = true) : 6 ≤ b ∧ b ≤ 40 ∧ 0 ≤ a ∧ a % 2 ^ b.toNat = 0 ∧ a + 2 ^ b.toNat ≤ 1099511627776 := by simpa [rngOk] using h

theorem end_val {a b : Int} (h : rngOk a b = true) : iop .add .i64 a (iop .shl .i64 1 b) = rngEnd a b := by
  obtain ⟨h1, h2, h3, h4, h5⟩ := rngOk_of h
  have := pow_pos2 b.toNat
  rw [shl1 (by omega), add_i (by omega) (by omega), rngEnd, if_pos h]

theorem s95 (a b : Int) : g95 a b = some (rngEnd a b) := by
  rw [g95_eq]
  simp only [s71, Option.bind_some]
  cases h : rngOk a b with
  | false => simp [rngEnd, h]
  | true =>
    obtain ⟨h1, h2, h3, h4, h5⟩ := rngOk_of h
    simp only [Bool.not_true, Bool.false_eq_true, if_false]
    rw [reqK_pos (by omega), end_val h]

theorem s76 (a b : Int) : g76 a b = some (rngEnd a b) := by
  rw [g76_eq]
  simp only [s75, Option.bind_some]
  cases h : rngOk a b with
  | false => simp [rngEnd, h]
  | true =>
    obtain ⟨h1, h2, h3, h4, h5⟩ := rngOk_of h
    have hw : IntKind.wrap .u64 b = b := wrapu_of (by omega) (by omega)
    simp only [Bool.not_true, Bool.false_eq_true, if_false, hw]
    rw [reqK_pos (by omega), end_val h]

/-- memrange.Overlaps -/
def overB (a b c d : Int) : Bool := rngOk a b && rngOk c d && decide (a < rngEnd c d) && decide (c < rngEnd a b)

theorem s73 (a b c d : Int) : g73 a b c d = some (overB a b c d) := by
  rw [g73_eq]
  simp only [s71, s95, Option.bind_some]
  repeat' split
  all_goals (refine congrArg some ?_; rw [bool_iff]; simp only [overB, cop_lss_t, cop_lss_f, cop_leq_t, cop_leq_f, cop_gtr_t, cop_gtr_f, cop_geq_t, cop_geq_f, cop_eql_t, cop_eql_f, cop_neq_t, cop_neq_f, Bool.not_eq_true, Bool.not_eq_false, Bool.not_eq_true', Bool.not_eq_false', Bool.and_eq_true, Bool.or_eq_true, decide_eq_true_eq, decide_eq_false_iff_not, Bool.false_eq_true, Bool.true_eq_false, Option.bind_some, Option.some.injEq, false_iff, true_iff, iff_false, iff_true] at *; grind)

theorem s31 (a b c d : Int) : g31 a b c d = some (overB a b c d) := by
  rw [g31_eq]
  simp only [s75, s76, Option.bind_some]
  repeat' split
  all_goals (refine congrArg some ?_; rw [bool_iff]; simp only [overB, cop_lss_t, cop_lss_f, cop_leq_t, cop_leq_f, cop_gtr_t, cop_gtr_f, cop_geq_t, cop_geq_f, cop_eql_t, cop_eql_f, cop_neq_t, cop_neq_f, Bool.not_eq_true, Bool.not_eq_false, Bool.not_eq_true', Bool.not_eq_false', Bool.and_eq_true, Bool.or_eq_true, decide_eq_true_eq, decide_eq_false_iff_not, Bool.false_eq_true, Bool.true_eq_false, Option.bind_some, Option.some.injEq, false_iff, true_iff, iff_false, iff_true] at *; grind)

/-- memrange.Contains -/
def inB (a b c d : Int) : Bool := rngOk a b && rngOk c d && decide (a ≤ c) && decide (rngEnd c d ≤ rngEnd a b)

theorem s74 (a b c d : Int) : g74 a b c d = some (inB a b c d) := by
  rw [g74_eq]
  simp only [s71, s95, Option.bind_some]
  repeat' split
  all_goals (refine congrArg some ?_; rw [bool_iff]; simp only [inB, cop_lss_t, cop_lss_f, cop_leq_t, cop_leq_f, cop_gtr_t, cop_gtr_f, cop_geq_t, cop_geq_f, cop_eql_t, cop_eql_f, cop_neq_t, cop_neq_f, Bool.not_eq_true, Bool.not_eq_false, Bool.not_eq_true', Bool.not_eq_false', Bool.and_eq_true, Bool.or_eq_true, decide_eq_true_eq, decide_eq_false_iff_not, Bool.false_eq_true, Bool.true_eq_false, Option.bind_some, Option.some.injEq, false_iff, true_iff, iff_false, iff_true] at *; grind)

theorem s77 (a b c d : Int) : g77 a b c d = some (inB a b c d) := by
  rw [g77_eq]
  simp only [s75, s76, Option.bind_some]
  repeat' split
  all_goals (refine congrArg some ?_; rw [bool_iff]; simp only [inB, cop_lss_t, cop_lss_f, cop_leq_t, cop_leq_f, cop_gtr_t, cop_gtr_f, cop_geq_t, cop_geq_f, cop_eql_t, cop_eql_f, cop_neq_t, cop_neq_f, Bool.not_eq_true, Bool.not_eq_false, Bool.not_eq_true', Bool.not_eq_false', Bool.and_eq_true, Bool.or_eq_true, decide_eq_true_eq, decide_eq_false_iff_not, Bool.false_eq_true, Bool.true_eq_false, Option.bind_some, Option.some.injEq, false_iff, true_iff, iff_false, iff_true] at *; grind)

structure Cap where
  kind : Int
  base : Int
  bits : Int
  rights : Int
  width : Int
  level : Int
  device : Bool

theorem s32 (k b s r w l : Int) (d : Bool) : g32 k b s r w l d = some (b, s) := g32_eq ..
theorem s34 (k b s r w l : Int) (d : Bool) : g34 k b s r w l d = some (b, s) := g34_eq ..

/-- captype.Valid -/
def capOk (c : Cap) : Bool := sizeOk c.kind c.bits && rngOk c.base c.bits && decide (0 ≤ c.rights ∧ c.rights ≤ 7) && (if c.kind = 3 then formOk c.width c.level else decide (c.width = 0 ∧ c.level = 0)) && (!c.device || decide (c.kind = 1) || decide (c.kind = 2))

theorem s28 (k b s r w l : Int) (d : Bool) : g28 k b s r w l d = some (capOk ⟨k, b, s, r, w, l, d⟩) := by
  rw [g28_eq]
  simp only [s67, s32, s71, s68, Option.bind_some]
  repeat' split
  all_goals (refine congrArg some ?_; rw [bool_iff]; simp only [capOk, cop_lss_t, cop_lss_f, cop_leq_t, cop_leq_f, cop_gtr_t, cop_gtr_f, cop_geq_t, cop_geq_f, cop_eql_t, cop_eql_f, cop_neq_t, cop_neq_f, Bool.not_eq_true, Bool.not_eq_false, Bool.not_eq_true', Bool.not_eq_false', Bool.and_eq_true, Bool.or_eq_true, decide_eq_true_eq, decide_eq_false_iff_not, Bool.false_eq_true, Bool.true_eq_false, Option.bind_some, Option.some.injEq, false_iff, true_iff, iff_false, iff_true] at *; grind)

theorem s33 (k b s r w l : Int) (d : Bool) : g33 k b s r w l d = some (capOk ⟨k, b, s, r, w, l, d⟩) := by
  rw [g33_eq]
  simp only [s69, s34, s75, s70, Option.bind_some]
  repeat' split
  all_goals (refine congrArg some ?_; rw [bool_iff]; simp only [capOk, cop_lss_t, cop_lss_f, cop_leq_t, cop_leq_f, cop_gtr_t, cop_gtr_f, cop_geq_t, cop_geq_f, cop_eql_t, cop_eql_f, cop_neq_t, cop_neq_f, Bool.not_eq_true, Bool.not_eq_false, Bool.not_eq_true', Bool.not_eq_false', Bool.and_eq_true, Bool.or_eq_true, decide_eq_true_eq, decide_eq_false_iff_not, Bool.false_eq_true, Bool.true_eq_false, Option.bind_some, Option.some.injEq, false_iff, true_iff, iff_false, iff_true] at *; grind)

/-- captype.SameObject -/
def sameB (a b : Cap) : Bool := decide (a.kind = b.kind) && decide (a.base = b.base) && decide (a.bits = b.bits) && decide (a.width = b.width) && decide (a.level = b.level) && decide (a.device = b.device)

theorem s27 (k b s r w l : Int) (d : Bool) (k' b' s' r' w' l' : Int) (d' : Bool) : g27 k b s r w l d k' b' s' r' w' l' d' = some (sameB ⟨k, b, s, r, w, l, d⟩ ⟨k', b', s', r', w', l', d'⟩) := by
  rw [g27_eq]
  repeat' split
  all_goals (refine congrArg some ?_; rw [bool_iff]; simp only [sameB, cop_lss_t, cop_lss_f, cop_leq_t, cop_leq_f, cop_gtr_t, cop_gtr_f, cop_geq_t, cop_geq_f, cop_eql_t, cop_eql_f, cop_neq_t, cop_neq_f, Bool.not_eq_true, Bool.not_eq_false, Bool.not_eq_true', Bool.not_eq_false', Bool.and_eq_true, Bool.or_eq_true, decide_eq_true_eq, decide_eq_false_iff_not, Bool.false_eq_true, Bool.true_eq_false, Option.bind_some, Option.some.injEq, false_iff, true_iff, iff_false, iff_true, beq_iff_eq] at *; grind)

theorem s35 (k b s r w l : Int) (d : Bool) (k' b' s' r' w' l' : Int) (d' : Bool) : g35 k b s r w l d k' b' s' r' w' l' d' = some (sameB ⟨k, b, s, r, w, l, d⟩ ⟨k', b', s', r', w', l', d'⟩) := by
  rw [g35_eq]
  repeat' split
  all_goals (refine congrArg some ?_; rw [bool_iff]; simp only [sameB, cop_lss_t, cop_lss_f, cop_leq_t, cop_leq_f, cop_gtr_t, cop_gtr_f, cop_geq_t, cop_geq_f, cop_eql_t, cop_eql_f, cop_neq_t, cop_neq_f, Bool.not_eq_true, Bool.not_eq_false, Bool.not_eq_true', Bool.not_eq_false', Bool.and_eq_true, Bool.or_eq_true, decide_eq_true_eq, decide_eq_false_iff_not, Bool.false_eq_true, Bool.true_eq_false, Option.bind_some, Option.some.injEq, false_iff, true_iff, iff_false, iff_true, beq_iff_eq] at *; grind)

/-- captype.Coexist -/
def coB (a b : Cap) : Bool := !overB a.base a.bits b.base b.bits || sameB a b || (decide (a.kind = 1) && inB a.base a.bits b.base b.bits) || (decide (b.kind = 1) && inB b.base b.bits a.base a.bits)

theorem s30 (k b s r w l : Int) (d : Bool) (k' b' s' r' w' l' : Int) (d' : Bool) : g30 k b s r w l d k' b' s' r' w' l' d' = some (coB ⟨k, b, s, r, w, l, d⟩ ⟨k', b', s', r', w', l', d'⟩) := by
  rw [g30_eq]
  simp only [s32, s73, s27, s74, Option.bind_some]
  repeat' split
  all_goals (refine congrArg some ?_; rw [bool_iff]; simp only [coB, cop_lss_t, cop_lss_f, cop_leq_t, cop_leq_f, cop_gtr_t, cop_gtr_f, cop_geq_t, cop_geq_f, cop_eql_t, cop_eql_f, cop_neq_t, cop_neq_f, Bool.not_eq_true, Bool.not_eq_false, Bool.not_eq_true', Bool.not_eq_false', Bool.and_eq_true, Bool.or_eq_true, decide_eq_true_eq, decide_eq_false_iff_not, Bool.false_eq_true, Bool.true_eq_false, Option.bind_some, Option.some.injEq, false_iff, true_iff, iff_false, iff_true] at *; grind)

theorem s36 (k b s r w l : Int) (d : Bool) (k' b' s' r' w' l' : Int) (d' : Bool) : g36 k b s r w l d k' b' s' r' w' l' d' = some (coB ⟨k, b, s, r, w, l, d⟩ ⟨k', b', s', r', w', l', d'⟩) := by
  rw [g36_eq]
  simp only [s34, s31, s35, s77, Option.bind_some]
  repeat' split
  all_goals (refine congrArg some ?_; rw [bool_iff]; simp only [coB, cop_lss_t, cop_lss_f, cop_leq_t, cop_leq_f, cop_gtr_t, cop_gtr_f, cop_geq_t, cop_geq_f, cop_eql_t, cop_eql_f, cop_neq_t, cop_neq_f, Bool.not_eq_true, Bool.not_eq_false, Bool.not_eq_true', Bool.not_eq_false', Bool.and_eq_true, Bool.or_eq_true, decide_eq_true_eq, decide_eq_false_iff_not, Bool.false_eq_true, Bool.true_eq_false, Option.bind_some, Option.some.injEq, false_iff, true_iff, iff_false, iff_true] at *; grind)

theorem s26 (k b s r w l : Int) (d : Bool) (m : Int) : g26 k b s r w l d m = some (k, b, s, iop .and .i64 r m, w, l, d) := g26_eq ..
theorem s37 (k b s r w l : Int) (d : Bool) (m : Int) : g37 k b s r w l d m = some (k, b, s, iop .and .i64 r m, w, l, d) := g37_eq ..

end Go.Proofs.Ytjfhdhplmibnfaa
