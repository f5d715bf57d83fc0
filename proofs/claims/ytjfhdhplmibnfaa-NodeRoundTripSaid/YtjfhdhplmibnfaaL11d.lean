/- The laws of capabilities that rest on what the makers make: attenuation, coexistence, device memory. -/
import Derived.Test.YtjfhdhplmibnfaaL11c
namespace Go.Proofs.Ytjfhdhplmibnfaa
open Go Go.AM
set_option linter.unusedSimpArgs false
set_option linter.unusedVariables false

theorem emod_rng (x n : Int) (h : 1 ≤ n) : 0 ≤ x % n ∧ x % n < n := ⟨Int.emod_nonneg x (by omega), Int.emod_lt_of_pos x (by omega)⟩

theorem mk_exp {b : Int} (h1 : 6 ≤ b) (h2 : b ≤ 20) : IntKind.wrap .u64 (iop .sub .i64 20 (iop .min .i64 b 20)) = 20 - b := by
  have hm : iop .min .i64 b 20 = b := by simp only [iop]; omega
  rw [hm, sub_i (by omega) (by omega), wrapu_of (by omega) (by omega)]

theorem pow_split {b : Int} (h1 : 0 ≤ b) (h2 : b ≤ 20) : (2 : Int) ^ (20 - b).toNat * 2 ^ b.toNat = 1048576 := by
  rw [← Int.pow_add, show (20 - b).toNat + b.toNat = 20 by omega]
  decide

/-- A place among the blocks of a size. -/
theorem mk_base (x : Int) {b : Int} (h1 : 6 ≤ b) (h2 : b ≤ 20) : ∃ m : Int, g24 x (iop .shl .i64 1 (20 - b)) = some m ∧ IntKind.wrap .u64 b = b ∧ iop .shl .i64 m b = m * 2 ^ b.toNat ∧ rngOk (m * 2 ^ b.toNat) b = true := by
  have hp := pow_pos2 (20 - b).toNat
  have hq := pow_pos2 b.toNat
  have hs := pow_split (b := b) (by omega) h2
  have hle : (2 : Int) ^ (20 - b).toNat ≤ 1048576 := by
    have := pow_le2 (m := (20 - b).toNat) (n := 20) (by omega)
    have e : (2 : Int) ^ 20 = 1048576 := by decide
    omega
  have e62 : (2 : Int) ^ 62 = 4611686018427387904 := by decide
  have e63 : (2 : Int) ^ 63 = 9223372036854775808 := by decide
  obtain ⟨r1, r2⟩ := emod_rng x (2 ^ (20 - b).toNat) (by omega)
  have m1 : (x % 2 ^ (20 - b).toNat + 1) * 2 ^ b.toNat ≤ 2 ^ (20 - b).toNat * 2 ^ b.toNat := Int.mul_le_mul_of_nonneg_right (by omega) (by omega)
  have m2 : (x % 2 ^ (20 - b).toNat + 1) * 2 ^ b.toNat = x % 2 ^ (20 - b).toNat * 2 ^ b.toNat + 2 ^ b.toNat := by rw [Int.add_mul, Int.one_mul]
  have m3 : 0 ≤ x % 2 ^ (20 - b).toNat * 2 ^ b.toNat := Int.mul_nonneg r1 (by omega)
  refine ⟨x % 2 ^ (20 - b).toNat, ?_, wrapu_of (by omega) (by omega), shl_i (by omega) (by omega) r1 (by omega), ?_⟩
  · rw [shl1 (by omega), s24 _ _ (by omega) (by omega)]
  · simp only [rngOk, decide_eq_true_eq]
    refine ⟨h1, by omega, m3, ?_, by omega⟩
    exact Int.mul_emod_left _ _

/-- multikernelmake.Cap makes a valid capability. -/
theorem s25 (x0 x1 x2 x3 x4 : Int) : ∃ c : Cap, capOk c = true ∧ g25 x0 x1 x2 x3 x4 = some (c.kind, c.base, c.bits, c.rights, c.width, c.level, c.device) := by
  obtain ⟨a1, a2⟩ := emod_rng x0 6 (by omega)
  obtain ⟨b1, b2⟩ := emod_rng x3 8 (by omega)
  rw [g25_eq, s24 x0 6 (by omega) (by omega), Option.bind_some, s24 x3 8 (by omega) (by omega), Option.bind_some]
  generalize x0 % 6 = r5 at *
  generalize x3 % 8 = r6 at *
  have e1 : iop .add .i64 1 r5 = 1 + r5 := add_i (by omega) (by omega)
  rw [e1]
  obtain ⟨c1, c2⟩ := emod_rng x4 4 (by omega)
  obtain ⟨d1, d2⟩ := emod_rng x2 15 (by omega)
  obtain ⟨f1, f2⟩ := emod_rng x2 9 (by omega)
  obtain ⟨g1, g2⟩ := emod_rng x4 2 (by omega)
  obtain ⟨h1, h2⟩ := emod_rng x4 3 (by omega)
  have p15 : iop .add .i64 6 (x2 % 15) = 6 + x2 % 15 := add_i (by omega) (by omega)
  have p9 : iop .add .i64 12 (x2 % 9) = 12 + x2 % 9 := add_i (by omega) (by omega)
  by_cases k1 : r5 = 0
  · subst k1
    obtain ⟨m, q1, q2, q3, q4⟩ := mk_base x1 (b := 6 + x2 % 15) (by omega) (by omega)
    refine ⟨⟨1, m * 2 ^ (6 + x2 % 15).toNat, 6 + x2 % 15, r6, 0, 0, cop .eql (x4 % 4) 3⟩, ?_, ?_⟩
    · simp only [capOk, q4, sizeOk]
      simp
      omega
    · rw [if_pos (by decide), s24 x2 15 (by omega) (by omega), Option.bind_some, s24 x4 4 (by omega) (by omega), Option.bind_some, p15, mk_exp (by omega) (by omega), reqK_pos (by omega), q1, Option.bind_some, q2, reqK_pos (by omega), q3]
      rfl
  rw [if_neg (by simp only [cop_lss_t, cop_lss_f, cop_leq_t, cop_leq_f, cop_gtr_t, cop_gtr_f, cop_geq_t, cop_geq_f, cop_eql_t, cop_eql_f, cop_neq_t, cop_neq_f, Bool.not_eq_true, Bool.not_eq_false, Bool.not_eq_true', Bool.not_eq_false', Bool.and_eq_true, Bool.or_eq_true, decide_eq_true_eq, decide_eq_false_iff_not, Bool.false_eq_true, Bool.true_eq_false, Option.bind_some, Option.some.injEq, false_iff, true_iff, iff_false, iff_true]; omega)]
  by_cases k2 : r5 = 1
  · subst k2
    obtain ⟨m, q1, q2, q3, q4⟩ := mk_base x1 (b := 12 + x2 % 9) (by omega) (by omega)
    refine ⟨⟨2, m * 2 ^ (12 + x2 % 9).toNat, 12 + x2 % 9, r6, 0, 0, cop .eql (x4 % 4) 3⟩, ?_, ?_⟩
    · simp only [capOk, q4, sizeOk]
      simp
      omega
    · rw [if_pos (by decide), s24 x2 9 (by omega) (by omega), Option.bind_some, s24 x4 4 (by omega) (by omega), Option.bind_some, p9, mk_exp (by omega) (by omega), reqK_pos (by omega), q1, Option.bind_some, q2, reqK_pos (by omega), q3]
      rfl
  rw [if_neg (by simp only [cop_lss_t, cop_lss_f, cop_leq_t, cop_leq_f, cop_gtr_t, cop_gtr_f, cop_geq_t, cop_geq_f, cop_eql_t, cop_eql_f, cop_neq_t, cop_neq_f, Bool.not_eq_true, Bool.not_eq_false, Bool.not_eq_true', Bool.not_eq_false', Bool.and_eq_true, Bool.or_eq_true, decide_eq_true_eq, decide_eq_false_iff_not, Bool.false_eq_true, Bool.true_eq_false, Option.bind_some, Option.some.injEq, false_iff, true_iff, iff_false, iff_true]; omega)]
  by_cases k3 : r5 = 2
  · subst k3
    obtain ⟨m, q1, q2, q3, q4⟩ := mk_base x1 (b := 12) (by omega) (by omega)
    rw [if_pos (by decide), s24 x4 2 (by omega) (by omega), Option.bind_some, s24 x2 2 (by omega) (by omega), Option.bind_some]
    by_cases k4 : x2 % 2 = 1
    · refine ⟨⟨3, m * 2 ^ (12 : Int).toNat, 12, r6, 39, x4 % 3, false⟩, ?_, ?_⟩
      · simp only [capOk, q4, sizeOk, formOk]
        simp
        omega
      · rw [if_pos (by simp only [cop_lss_t, cop_lss_f, cop_leq_t, cop_leq_f, cop_gtr_t, cop_gtr_f, cop_geq_t, cop_geq_f, cop_eql_t, cop_eql_f, cop_neq_t, cop_neq_f, Bool.not_eq_true, Bool.not_eq_false, Bool.not_eq_true', Bool.not_eq_false', Bool.and_eq_true, Bool.or_eq_true, decide_eq_true_eq, decide_eq_false_iff_not, Bool.false_eq_true, Bool.true_eq_false, Option.bind_some, Option.some.injEq, false_iff, true_iff, iff_false, iff_true]; exact k4), s24 x4 3 (by omega) (by omega), Option.bind_some, mk_exp (by omega) (by omega), reqK_pos (by omega), q1, Option.bind_some, q2, reqK_pos (by omega), q3]
        rfl
    · refine ⟨⟨3, m * 2 ^ (12 : Int).toNat, 12, r6, 32, x4 % 2, false⟩, ?_, ?_⟩
      · simp only [capOk, q4, sizeOk, formOk]
        simp
        omega
      · rw [if_neg (by simp only [cop_lss_t, cop_lss_f, cop_leq_t, cop_leq_f, cop_gtr_t, cop_gtr_f, cop_geq_t, cop_geq_f, cop_eql_t, cop_eql_f, cop_neq_t, cop_neq_f, Bool.not_eq_true, Bool.not_eq_false, Bool.not_eq_true', Bool.not_eq_false', Bool.and_eq_true, Bool.or_eq_true, decide_eq_true_eq, decide_eq_false_iff_not, Bool.false_eq_true, Bool.true_eq_false, Option.bind_some, Option.some.injEq, false_iff, true_iff, iff_false, iff_true]; exact k4), mk_exp (by omega) (by omega), reqK_pos (by omega), q1, Option.bind_some, q2, reqK_pos (by omega), q3]
        rfl
  rw [if_neg (by simp only [cop_lss_t, cop_lss_f, cop_leq_t, cop_leq_f, cop_gtr_t, cop_gtr_f, cop_geq_t, cop_geq_f, cop_eql_t, cop_eql_f, cop_neq_t, cop_neq_f, Bool.not_eq_true, Bool.not_eq_false, Bool.not_eq_true', Bool.not_eq_false', Bool.and_eq_true, Bool.or_eq_true, decide_eq_true_eq, decide_eq_false_iff_not, Bool.false_eq_true, Bool.true_eq_false, Option.bind_some, Option.some.injEq, false_iff, true_iff, iff_false, iff_true]; omega)]
  by_cases k4 : r5 = 3
  · subst k4
    obtain ⟨m, q1, q2, q3, q4⟩ := mk_base x1 (b := 6) (by omega) (by omega)
    refine ⟨⟨4, m * 2 ^ (6 : Int).toNat, 6, r6, 0, 0, false⟩, ?_, ?_⟩
    · simp only [capOk, q4, sizeOk]
      simp
      omega
    · rw [if_pos (by decide), mk_exp (by omega) (by omega), reqK_pos (by omega), q1, Option.bind_some, q2, reqK_pos (by omega), q3]
      rfl
  rw [if_neg (by simp only [cop_lss_t, cop_lss_f, cop_leq_t, cop_leq_f, cop_gtr_t, cop_gtr_f, cop_geq_t, cop_geq_f, cop_eql_t, cop_eql_f, cop_neq_t, cop_neq_f, Bool.not_eq_true, Bool.not_eq_false, Bool.not_eq_true', Bool.not_eq_false', Bool.and_eq_true, Bool.or_eq_true, decide_eq_true_eq, decide_eq_false_iff_not, Bool.false_eq_true, Bool.true_eq_false, Option.bind_some, Option.some.injEq, false_iff, true_iff, iff_false, iff_true]; omega)]
  by_cases k5 : r5 = 4
  · subst k5
    obtain ⟨m, q1, q2, q3, q4⟩ := mk_base x1 (b := 10) (by omega) (by omega)
    refine ⟨⟨5, m * 2 ^ (10 : Int).toNat, 10, r6, 0, 0, false⟩, ?_, ?_⟩
    · simp only [capOk, q4, sizeOk]
      simp
      omega
    · rw [if_pos (by decide), mk_exp (by omega) (by omega), reqK_pos (by omega), q1, Option.bind_some, q2, reqK_pos (by omega), q3]
      rfl
  · obtain rfl : r5 = 5 := by omega
    obtain ⟨m, q1, q2, q3, q4⟩ := mk_base x1 (b := 16) (by omega) (by omega)
    refine ⟨⟨6, m * 2 ^ (16 : Int).toNat, 16, r6, 0, 0, false⟩, ?_, ?_⟩
    · simp only [capOk, q4, sizeOk]
      simp
      omega
    · rw [if_neg (by decide), mk_exp (by omega) (by omega), reqK_pos (by omega), q1, Option.bind_some, q2, reqK_pos (by omega), q3]
      rfl

/-! bits -/
theorem and_bv (a b : Int) : iop .and .i64 a b = (BitVec.ofInt 64 a &&& BitVec.ofInt 64 b).toInt := by
  show IntKind.wrap .i64 (((BitVec.ofInt 64 a &&& BitVec.ofInt 64 b).toNat : Nat) : Int) = _
  generalize BitVec.ofInt 64 a &&& BitVec.ofInt 64 b = x
  have := x.isLt
  rw [BitVec.toInt_eq_toNat_cond]
  simp only [IntKind.wrap]
  have hs : IntKind.i64.signed = true := rfl
  have hb : IntKind.i64.bits = 64 := rfl
  have h64 : (2 : Nat) ^ 64 = 18446744073709551616 := by decide
  have h65 : (2 : Int) ^ 64 = 18446744073709551616 := by decide
  have h63 : (2 : Int) ^ (64 - 1) = 9223372036854775808 := by decide
  simp only [hs, hb, if_true, Bool.true_and, decide_eq_true_eq, h65, h63]
  rw [h64] at this ⊢
  by_cases hx : 2 * x.toNat < 18446744073709551616
  · rw [if_pos hx]; omega
  · rw [if_neg hx]; omega

theorem and_assoc' (a b c : Int) : iop .and .i64 (iop .and .i64 a b) c = iop .and .i64 a (iop .and .i64 b c) := by
  simp only [and_bv, BitVec.ofInt_toInt, BitVec.and_assoc]

theorem and_comm' (a b : Int) : iop .and .i64 a b = iop .and .i64 b a := by
  simp only [and_bv, BitVec.and_comm]

theorem and_again (a b : Int) : iop .and .i64 (iop .and .i64 a b) a = iop .and .i64 a b := by
  rw [and_comm', ← and_assoc', and_bv a a, BitVec.and_self, and_bv, and_bv]
  simp only [BitVec.ofInt_toInt]

theorem and_rng {a : Int} (b : Int) (h0 : 0 ≤ a) (h1 : a ≤ 7) : 0 ≤ iop .and .i64 a b ∧ iop .and .i64 a b ≤ 7 := by
  have h := and_bv a b
  have hle : (BitVec.ofInt 64 a &&& BitVec.ofInt 64 b).toNat ≤ (BitVec.ofInt 64 a).toNat := by
    rw [BitVec.toNat_and]
    exact Nat.and_le_left
  have ha : (BitVec.ofInt 64 a).toNat ≤ 7 := by
    rw [BitVec.toNat_ofInt]
    omega
  rw [h, BitVec.toInt_eq_toNat_cond]
  split <;> omega

theorem and_all {a : Int} (h0 : 0 ≤ a) (h1 : a ≤ 7) : iop .and .i64 a 7 = a := by
  rcases (by omega : a = 0 ∨ a = 1 ∨ a = 2 ∨ a = 3 ∨ a = 4 ∨ a = 5 ∨ a = 6 ∨ a = 7) with rfl | rfl | rfl | rfl | rfl | rfl | rfl | rfl <;> decide

theorem cap_parts {c : Cap} (h : capOk c = true) : 0 ≤ c.rights ∧ c.rights ≤ 7 := by
  simp only [capOk, Bool.and_eq_true, decide_eq_true_eq] at h
  exact h.1.1.2

theorem cap_att {c : Cap} (h : capOk c = true) (m : Int) : capOk { c with rights := iop .and .i64 c.rights m } = true := by
  obtain ⟨h1, h2⟩ := cap_parts h
  have := and_rng m h1 h2
  simp only [capOk, Bool.and_eq_true, decide_eq_true_eq] at h ⊢
  exact ⟨⟨⟨h.1.1.1, this⟩, h.1.2⟩, h.2⟩

theorem s6 (k b s r l x y : Int) : g6 k b s r l x y = some true := by
  obtain ⟨c, hc, h25⟩ := s25 k b s r l
  obtain ⟨c1, c2⟩ := cap_parts hc
  have hv := cap_att (cap_att hc x) y
  simp only at hv
  rw [g6_eq, h25]
  simp only [Option.bind_some, s26, s27, s28, s23]
  have e1 : iop .and .i64 (iop .and .i64 c.rights x) y = iop .and .i64 c.rights (iop .and .i64 x y) := and_assoc' ..
  have e2 : iop .and .i64 (iop .and .i64 c.rights x) c.rights = iop .and .i64 c.rights x := and_again ..
  rw [e1] at hv
  rw [e1, e2, and_all c1 c2, if_pos (by simp [cop]), if_pos (by simp [cop]), if_pos (by simp [sameB]), hv, if_pos rfl, if_pos (by simp [cop])]

theorem over_comm (a b c d : Int) : overB a b c d = overB c d a b := by
  rw [bool_iff]
  simp only [overB, Bool.and_eq_true, decide_eq_true_eq]
  grind

theorem same_comm (a b : Cap) : sameB a b = sameB b a := by
  rw [bool_iff]
  simp only [sameB, Bool.and_eq_true, decide_eq_true_eq]
  grind

theorem co_comm (a b : Cap) : coB a b = coB b a := by
  simp only [coB, over_comm a.base a.bits b.base b.bits, same_comm a b]
  cases overB b.base b.bits a.base a.bits <;> cases sameB b a <;> simp [Bool.or_comm]

theorem s9 (k b s r v kk bb ss rr vv m : Int) : g9 k b s r v kk bb ss rr vv m = some true := by
  obtain ⟨x, hx, h1⟩ := s25 k b s r v
  obtain ⟨y, hy, h2⟩ := s25 kk bb ss rr vv
  rw [g9_eq, h1, h2]
  simp only [Option.bind_some, s30, s26, s27, s28, s23]
  have e1 : coB ⟨y.kind, y.base, y.bits, y.rights, y.width, y.level, y.device⟩ ⟨x.kind, x.base, x.bits, x.rights, x.width, x.level, x.device⟩ = coB ⟨x.kind, x.base, x.bits, x.rights, x.width, x.level, x.device⟩ ⟨y.kind, y.base, y.bits, y.rights, y.width, y.level, y.device⟩ := co_comm ..
  have e2 : coB ⟨x.kind, x.base, x.bits, x.rights, x.width, x.level, x.device⟩ ⟨x.kind, x.base, x.bits, iop .and .i64 x.rights m, x.width, x.level, x.device⟩ = true := by simp [coB, sameB]
  rw [e1, if_neg (by simp), e2, if_neg (by simp)]
  refine ite_goal (fun _ => rfl) fun n1 => ite_goal (fun _ => rfl) fun n2 => ite_goal (fun _ => rfl) fun n3 => ite_goal (fun _ => rfl) fun n4 => ?_
  exfalso
  refine n4 ?_
  simp only [cop_lss_t, cop_lss_f, cop_leq_t, cop_leq_f, cop_gtr_t, cop_gtr_f, cop_geq_t, cop_geq_f, cop_eql_t, cop_eql_f, cop_neq_t, cop_neq_f, Bool.not_eq_true, Bool.not_eq_false, Bool.not_eq_true', Bool.not_eq_false', Bool.and_eq_true, Bool.or_eq_true, decide_eq_true_eq, decide_eq_false_iff_not, Bool.false_eq_true, Bool.true_eq_false, Option.bind_some, Option.some.injEq, false_iff, true_iff, iff_false, iff_true] at n1 n2 n3
  have hrx := cap_rng hx
  have hry := cap_rng n3
  simp only at hrx hry
  have ho : overB x.base x.bits x.base y.bits = true := by
    have p1 := pow_pos2 x.bits.toNat
    have p2 := pow_pos2 y.bits.toNat
    simp only [overB, hrx, hry, Bool.true_and, Bool.and_eq_true, decide_eq_true_eq, rngEnd, if_true]
    omega
  simp [coB, ho, n1, n2]

theorem s5 (x0 x1 x2 : Int) : g5 x0 x1 x2 = some true := by
  obtain ⟨a1, a2⟩ := emod_rng x0 16 (by omega)
  obtain ⟨b1, b2⟩ := emod_rng x1 6 (by omega)
  obtain ⟨c1, c2⟩ := emod_rng x2 13 (by omega)
  rw [g5_eq, s24 x0 16 (by omega) (by omega), Option.bind_some, reqK_pos (by omega), s24 x1 6 (by omega) (by omega), Option.bind_some, s24 x2 13 (by omega) (by omega), Option.bind_some]
  generalize x0 % 16 = p at *
  generalize x1 % 6 = q at *
  generalize x2 % 13 = z at *
  have e1 : iop .add .i64 1 q = 1 + q := add_i (by omega) (by omega)
  have e2 : iop .sub .i64 (1 + q) 1 = q := by rw [sub_i (by omega) (by omega)]; omega
  have e3 : iop .add .i64 6 z = 6 + z := add_i (by omega) (by omega)
  have e4 : iop .shl .i64 p 20 = p * 1048576 := by
    have := shl_i (a := p) (b := 20) (by omega) (by omega) a1 (by
      have e63 : (2 : Int) ^ 63 = 9223372036854775808 := by decide
      have e20 : (2 : Int) ^ (20 : Int).toNat = 1048576 := by decide
      rw [e20]
      omega)
    have e20 : (2 : Int) ^ (20 : Int).toNat = 1048576 := by decide
    rw [this, e20]
  have e20 : (2 : Int) ^ (20 : Int).toNat = 1048576 := by decide
  have hcap : capOk ⟨1, p * 1048576, 20, 7, 0, 0, true⟩ = true := by
    simp only [capOk, sizeOk, rngOk, e20]
    simp
    omega
  have hr2 : iop .and .i64 7 2 ≠ 0 := by decide
  rw [e1, e2, e3, e4]
  rcases (by omega : q = 0 ∨ q = 1 ∨ q = 2 ∨ q = 3 ∨ q = 4 ∨ q = 5) with rfl | rfl | rfl | rfl | rfl | rfl
  · rw [elemK_at (sh := [.int .i64]) (cs := [I (6 + z)]) (r := 6 + z) _ (by omega) rfl rfl, s20]
    have hz := pow_pos2 (6 + z).toNat
    have hz2 := pow_le2 (m := (6 + z).toNat) (n := 18) (by omega)
    have e18 : (2 : Int) ^ 18 = 262144 := by decide
    have he : retErr ⟨1, p * 1048576, 20, 7, 0, 0, true⟩ (1 + 0) (6 + z) 0 32 0 1 = 0 := by
      rw [retErr, if_neg (by simp [hcap]), if_neg hr2, if_neg (by simp [sizeOk]; omega), if_neg (by simp), if_neg (by simp only [e20]; simp; omega)]
    simp only [Option.bind_some, he, retCells, if_true, newCells_len]
    rw [if_neg (by decide), if_pos (by decide), if_pos (by decide), elem_new _ (by decide) (by decide), if_pos rfl, s23]
    rfl
  · rw [elemK_at (sh := [.int .i64]) (cs := [I 12]) (r := 12) _ (by omega) rfl rfl, s20]
    have he : retErr ⟨1, p * 1048576, 20, 7, 0, 0, true⟩ (1 + 1) 12 0 32 0 1 = 0 := by
      rw [retErr, if_neg (by simp [hcap]), if_neg hr2, if_neg (by decide), if_neg (by simp), if_neg (by simp only [e20]; simp)]
    simp only [Option.bind_some, he, retCells, if_true, newCells_len]
    rw [if_pos (by decide), if_neg (by decide), if_pos (by decide), if_pos (by decide), elem_new _ (by decide) (by decide), if_pos rfl, s23]
    rfl
  all_goals
    first
    | rw [elemK_at (sh := [.int .i64]) (cs := [I 12]) (r := 12) _ (by omega) rfl rfl, s20]
    | rw [elemK_at (sh := [.int .i64]) (cs := [I 6]) (r := 6) _ (by omega) rfl rfl, s20]
    | rw [elemK_at (sh := [.int .i64]) (cs := [I 10]) (r := 10) _ (by omega) rfl rfl, s20]
    | rw [elemK_at (sh := [.int .i64]) (cs := [I 16]) (r := 16) _ (by omega) rfl rfl, s20]
    simp only [Option.bind_some, retCells, retErr, hcap, hr2, if_false]
    rw [if_pos (by decide), if_pos (by decide)]
    simp [sizeOk, formOk, s23, cop]

end Go.Proofs.Ytjfhdhplmibnfaa
