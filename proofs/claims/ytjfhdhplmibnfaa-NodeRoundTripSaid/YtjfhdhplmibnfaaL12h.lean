/- The reading of integers. -/
import Derived.Test.YtjfhdhplmibnfaaL12g
import Derived.Test.YtjfhdhplmibnfaaL11g
namespace Go.Proofs.Ytjfhdhplmibnfaa
open Go Go.AM
set_option linter.unusedSimpArgs false
set_option linter.unusedVariables false

/-- What binenc.Uvarint reads: the value, and how many bytes. -/
def rd : Nat → List Int → Option (Nat × Nat)
  | _, [] => none
  | n, c :: cs =>
    if n = 9 ∧ 1 < c then none else if 0 < n ∧ c = 0 then none else if c < 128 then some (c.toNat, 1) else
    match rd (n + 1) cs with
    | some (w, k) => some ((c - 128).toNat + 128 * w, k + 1)
    | none => none

theorem and7 {c : Int} (h0 : 0 ≤ c) (h1 : c ≤ 255) : IntKind.wrap .u64 (iop .and .u8 c 127) = c % 128 := by
  have : ∀ c : Fin 256, IntKind.wrap .u64 (iop .and .u8 ((c.val : Nat) : Int) 127) = ((c.val : Nat) : Int) % 128 := by decide +kernel
  have h := this ⟨c.toNat, by omega⟩
  have e : ((c.toNat : Nat) : Int) = c := by omega
  dsimp only at h
  rw [e] at h
  exact h

theorem or_add {acc m n : Nat} (ha : acc < 2 ^ (7 * n)) (hn : 7 * n ≤ 63) (hm : m * 2 ^ (7 * n) + acc < 2 ^ 64) : iop .or .u64 (acc : Int) (iop .shl .u64 (m : Int) ((7 * n : Nat) : Int)) = ((acc + 2 ^ (7 * n) * m : Nat) : Int) := by
  have h64 : (2 : Int) ^ 64 = 18446744073709551616 := by decide
  have h64' : (2 : Nat) ^ 64 = 18446744073709551616 := by decide
  have hmin : min (((7 * n : Nat) : Int)).toNat IntKind.u64.bits = 7 * n := by
    have : IntKind.u64.bits = 64 := rfl
    omega
  have hp : (m : Int) * 2 ^ (7 * n) = ((m * 2 ^ (7 * n) : Nat) : Int) := by
    rw [Int.natCast_mul, Int.natCast_pow]
    rfl
  have hs : iop .shl .u64 (m : Int) ((7 * n : Nat) : Int) = ((m * 2 ^ (7 * n) : Nat) : Int) := by
    show IntKind.wrap .u64 ((m : Int) * 2 ^ (min (((7 * n : Nat) : Int)).toNat IntKind.u64.bits)) = _
    rw [hmin, hp, wrapu_of (by omega) (by omega)]
  rw [hs]
  have ho : (BitVec.ofInt 64 (acc : Int) ||| BitVec.ofInt 64 ((m * 2 ^ (7 * n) : Nat) : Int)).toNat = acc + 2 ^ (7 * n) * m := by
    have e1 : (((acc : Int)) % ((2 ^ 64 : Nat) : Int)).toNat = acc := by rw [h64']; omega
    have e2 : ((((m * 2 ^ (7 * n) : Nat) : Int)) % ((2 ^ 64 : Nat) : Int)).toNat = m * 2 ^ (7 * n) := by rw [h64']; omega
    rw [BitVec.toNat_or, BitVec.toNat_ofInt, BitVec.toNat_ofInt, e1, e2, Nat.or_comm, Nat.mul_comm m, ← Nat.two_pow_add_eq_or_of_lt ha, Nat.add_comm]
  show IntKind.wrap .u64 (((BitVec.ofInt 64 (acc : Int) ||| BitVec.ofInt 64 ((m * 2 ^ (7 * n) : Nat) : Int)).toNat : Nat) : Int) = _
  rw [ho, wrapu_of (by omega) (by rw [Nat.mul_comm] at hm; omega)]

theorem l100 {bs : List Int} (hb : Bytes bs) (hl : bs.length ≤ 1000000) (off : Nat) : ∀ (cs : List Int) (n fuel acc : Nat), bs.drop (off + n) = cs → off + n ≤ bs.length → n ≤ 9 → cs.length < fuel → acc < 2 ^ (7 * n) →
    match rd n cs with
    | some (w, k) => g100L0 fuel (byteCells bs) off acc n = some (((acc + 2 ^ (7 * n) * w : Nat) : Int), ((off + n + k : Nat) : Int), 0)
    | none => ∃ e, e ≠ 0 ∧ g100L0 fuel (byteCells bs) off acc n = some (0, 0, e) := by
  have h64' : (2 : Nat) ^ 64 = 18446744073709551616 := by decide
  intro cs
  induction cs with
  | nil =>
    intro n fuel acc hd ho hn hf ha
    obtain ⟨f, rfl⟩ : ∃ f, fuel = f + 1 := ⟨fuel - 1, by omega⟩
    have hlen : off + n = bs.length := by
      have := List.drop_eq_nil_iff.1 hd
      omega
    have a0 : iop .add .i64 (off : Int) (n : Int) = ((off + n : Nat) : Int) := by rw [add_i (by omega) (by omega)]; omega
    exact ⟨52, by decide, by rw [g100L0_eq, a0, bytes_len, if_pos (by simp only [cop_lss_t, cop_lss_f, cop_leq_t, cop_leq_f, cop_gtr_t, cop_gtr_f, cop_geq_t, cop_geq_f, cop_eql_t, cop_eql_f, cop_neq_t, cop_neq_f, Bool.not_eq_true, Bool.not_eq_false, Bool.not_eq_true', Bool.not_eq_false', Bool.and_eq_true, Bool.or_eq_true, decide_eq_true_eq, decide_eq_false_iff_not, Bool.false_eq_true, Bool.true_eq_false, Option.bind_some, Option.some.injEq, false_iff, true_iff, iff_false, iff_true]; omega)]⟩
  | cons c cs ih =>
    intro n fuel acc hd ho hn hf ha
    obtain ⟨f, rfl⟩ : ∃ f, fuel = f + 1 := ⟨fuel - 1, by omega⟩
    have hlt : off + n < bs.length := by
      rcases Nat.lt_or_ge (off + n) bs.length with h | h
      · exact h
      · rw [List.drop_of_length_le h] at hd; cases hd
    have hc : bs[off + n]? = some c := by
      have := congrArg (fun l => l[0]?) hd
      simpa using this
    have hat : bs[((off + n : Nat) : Int).toNat]? = some c := by rw [Int.toNat_natCast]; exact hc
    have hcs : bs.drop (off + (n + 1)) = cs := by
      have := congrArg (List.drop 1) hd
      rw [List.drop_drop] at this
      simpa [Nat.add_assoc] using this
    obtain ⟨c0, c1⟩ := hb c (List.mem_of_getElem? hc)
    have a0 : iop .add .i64 (off : Int) (n : Int) = ((off + n : Nat) : Int) := by rw [add_i (by omega) (by omega)]; omega
    have a1 : iop .add .i64 (n : Int) 1 = ((n + 1 : Nat) : Int) := by rw [add_i (by omega) (by omega)]; omega
    have a2 : iop .add .i64 (off : Int) ((n + 1 : Nat) : Int) = ((off + n + 1 : Nat) : Int) := by rw [add_i (by omega) (by omega)]; omega
    have a3 : iop .mul .i64 7 (n : Int) = ((7 * n : Nat) : Int) := by rw [mul_i (by omega) (by omega)]; omega
    have e128 : c % 128 = ((c.toNat % 128 : Nat) : Int) := by omega
    rw [g100L0_eq, a0, bytes_len, if_neg (by simp only [cop_lss_t, cop_lss_f, cop_leq_t, cop_leq_f, cop_gtr_t, cop_gtr_f, cop_geq_t, cop_geq_f, cop_eql_t, cop_eql_f, cop_neq_t, cop_neq_f, Bool.not_eq_true, Bool.not_eq_false, Bool.not_eq_true', Bool.not_eq_false', Bool.and_eq_true, Bool.or_eq_true, decide_eq_true_eq, decide_eq_false_iff_not, Bool.false_eq_true, Bool.true_eq_false, Option.bind_some, Option.some.injEq, false_iff, true_iff, iff_false, iff_true]; omega), elem_byte _ (by omega) hat, and7 c0 c1, a1, a2, a3, e128]
    have tail : (¬ (n = 9 ∧ 1 < c)) → (¬ (0 < n ∧ c = 0)) → ∀ (T : Option (Int × Int × Int)), T = (reqK ((0 : Int) ≤ ((7 * n : Nat) : Int)) <|
        if (cop .lss c 128) = true then some ((iop .or .u64 (acc : Int) (iop .shl .u64 ((c.toNat % 128 : Nat) : Int) ((7 * n : Nat) : Int))), ((off + n + 1 : Nat) : Int), 0)
        else g100L0 f (byteCells bs) off (iop .or .u64 (acc : Int) (iop .shl .u64 ((c.toNat % 128 : Nat) : Int) ((7 * n : Nat) : Int))) ((n + 1 : Nat) : Int)) →
        match rd n (c :: cs) with
        | some (w, k) => T = some (((acc + 2 ^ (7 * n) * w : Nat) : Int), ((off + n + k : Nat) : Int), 0)
        | none => ∃ e, e ≠ 0 ∧ T = some (0, 0, e) := by
      intro h1 h2 T hT
      have hbound : c.toNat % 128 * 2 ^ (7 * n) + acc < 2 ^ 64 := by
        by_cases h9 : n = 9
        · subst h9
          have hm : c.toNat % 128 * 2 ^ (7 * 9) ≤ 1 * 2 ^ (7 * 9) := Nat.mul_le_mul_right _ (by omega)
          have hp2 : 1 * 2 ^ (7 * 9) + 2 ^ (7 * 9) = (2 : Nat) ^ 64 := by decide
          have hs := Nat.add_lt_add_of_le_of_lt hm ha
          rw [hp2] at hs
          exact hs
        · have hp : (2 : Nat) ^ (7 * n) ≤ 2 ^ 56 := Nat.pow_le_pow_right (by decide) (by omega)
          have hm : c.toNat % 128 * 2 ^ (7 * n) ≤ 127 * 2 ^ 56 := Nat.mul_le_mul (by omega) hp
          have h56 : (2 : Nat) ^ 56 = 72057594037927936 := by decide
          omega
      rw [reqK_pos (by omega), or_add ha (by omega) hbound] at hT
      by_cases hc128 : c < 128
      · have hrd : rd n (c :: cs) = some (c.toNat, 1) := by rw [rd, if_neg h1, if_neg h2, if_pos hc128]
        rw [hrd]
        dsimp only
        have hmod : c.toNat % 128 = c.toNat := by omega
        rw [if_pos (by simp only [cop_lss_t, cop_lss_f, cop_leq_t, cop_leq_f, cop_gtr_t, cop_gtr_f, cop_geq_t, cop_geq_f, cop_eql_t, cop_eql_f, cop_neq_t, cop_neq_f, Bool.not_eq_true, Bool.not_eq_false, Bool.not_eq_true', Bool.not_eq_false', Bool.and_eq_true, Bool.or_eq_true, decide_eq_true_eq, decide_eq_false_iff_not, Bool.false_eq_true, Bool.true_eq_false, Option.bind_some, Option.some.injEq, false_iff, true_iff, iff_false, iff_true]; exact hc128), hmod] at hT
        exact hT
      · have hn9 : n ≠ 9 := fun h => h1 ⟨h, by omega⟩
        have hmod : (c - 128).toNat = c.toNat % 128 := by omega
        rw [if_neg (by simp only [cop_lss_t, cop_lss_f, cop_leq_t, cop_leq_f, cop_gtr_t, cop_gtr_f, cop_geq_t, cop_geq_f, cop_eql_t, cop_eql_f, cop_neq_t, cop_neq_f, Bool.not_eq_true, Bool.not_eq_false, Bool.not_eq_true', Bool.not_eq_false', Bool.and_eq_true, Bool.or_eq_true, decide_eq_true_eq, decide_eq_false_iff_not, Bool.false_eq_true, Bool.true_eq_false, Option.bind_some, Option.some.injEq, false_iff, true_iff, iff_false, iff_true]; exact hc128)] at hT
        have hpow : (2 : Nat) ^ (7 * (n + 1)) = 2 ^ (7 * n) * 128 := by
          rw [show 7 * (n + 1) = 7 * n + 7 by omega, Nat.pow_add]
        have hacc : acc + 2 ^ (7 * n) * (c.toNat % 128) < 2 ^ (7 * (n + 1)) := by
          rw [hpow]
          have hh : 2 ^ (7 * n) * (c.toNat % 128) ≤ 2 ^ (7 * n) * 127 := Nat.mul_le_mul_left _ (by omega)
          omega
        have := ih (n + 1) f (acc + 2 ^ (7 * n) * (c.toNat % 128)) hcs (by omega) (by omega) (by simp at hf; omega) hacc
        have hrd : rd n (c :: cs) = match rd (n + 1) cs with | some (w, k) => some ((c - 128).toNat + 128 * w, k + 1) | none => none := by rw [rd, if_neg h1, if_neg h2, if_neg hc128]
        rw [hrd]
        cases hr : rd (n + 1) cs with
        | none =>
          rw [hr] at this
          obtain ⟨e, he, hg⟩ := this
          exact ⟨e, he, hT.trans hg⟩
        | some p =>
          obtain ⟨w, k⟩ := p
          rw [hr] at this
          dsimp only at this ⊢
          rw [hT, this, hmod, hpow]
          have e1 : acc + 2 ^ (7 * n) * (c.toNat % 128) + 2 ^ (7 * n) * 128 * w = acc + 2 ^ (7 * n) * (c.toNat % 128 + 128 * w) := by
            rw [Nat.mul_add, Nat.mul_assoc, Nat.add_assoc]
          have e2 : off + (n + 1) + k = off + n + (k + 1) := by omega
          rw [e1, e2]
    by_cases h9 : n = 9
    · rw [if_pos (by simp only [cop_lss_t, cop_lss_f, cop_leq_t, cop_leq_f, cop_gtr_t, cop_gtr_f, cop_geq_t, cop_geq_f, cop_eql_t, cop_eql_f, cop_neq_t, cop_neq_f, Bool.not_eq_true, Bool.not_eq_false, Bool.not_eq_true', Bool.not_eq_false', Bool.and_eq_true, Bool.or_eq_true, decide_eq_true_eq, decide_eq_false_iff_not, Bool.false_eq_true, Bool.true_eq_false, Option.bind_some, Option.some.injEq, false_iff, true_iff, iff_false, iff_true]; omega)]
      by_cases hc1 : 1 < c
      · have hrd : rd n (c :: cs) = none := by rw [rd, if_pos ⟨h9, hc1⟩]
        rw [hrd]
        exact ⟨6, by decide, by rw [if_pos (by simp only [cop_lss_t, cop_lss_f, cop_leq_t, cop_leq_f, cop_gtr_t, cop_gtr_f, cop_geq_t, cop_geq_f, cop_eql_t, cop_eql_f, cop_neq_t, cop_neq_f, Bool.not_eq_true, Bool.not_eq_false, Bool.not_eq_true', Bool.not_eq_false', Bool.and_eq_true, Bool.or_eq_true, decide_eq_true_eq, decide_eq_false_iff_not, Bool.false_eq_true, Bool.true_eq_false, Option.bind_some, Option.some.injEq, false_iff, true_iff, iff_false, iff_true]; exact hc1)]⟩
      · rw [if_neg (by simp only [cop_lss_t, cop_lss_f, cop_leq_t, cop_leq_f, cop_gtr_t, cop_gtr_f, cop_geq_t, cop_geq_f, cop_eql_t, cop_eql_f, cop_neq_t, cop_neq_f, Bool.not_eq_true, Bool.not_eq_false, Bool.not_eq_true', Bool.not_eq_false', Bool.and_eq_true, Bool.or_eq_true, decide_eq_true_eq, decide_eq_false_iff_not, Bool.false_eq_true, Bool.true_eq_false, Option.bind_some, Option.some.injEq, false_iff, true_iff, iff_false, iff_true]; exact hc1), if_pos (by simp only [cop_lss_t, cop_lss_f, cop_leq_t, cop_leq_f, cop_gtr_t, cop_gtr_f, cop_geq_t, cop_geq_f, cop_eql_t, cop_eql_f, cop_neq_t, cop_neq_f, Bool.not_eq_true, Bool.not_eq_false, Bool.not_eq_true', Bool.not_eq_false', Bool.and_eq_true, Bool.or_eq_true, decide_eq_true_eq, decide_eq_false_iff_not, Bool.false_eq_true, Bool.true_eq_false, Option.bind_some, Option.some.injEq, false_iff, true_iff, iff_false, iff_true]; omega)]
        by_cases hz : c = 0
        · have hrd : rd n (c :: cs) = none := by rw [rd, if_neg fun h => hc1 h.2, if_pos ⟨by omega, hz⟩]
          rw [hrd]
          exact ⟨54, by decide, by rw [if_pos (by simp only [cop_lss_t, cop_lss_f, cop_leq_t, cop_leq_f, cop_gtr_t, cop_gtr_f, cop_geq_t, cop_geq_f, cop_eql_t, cop_eql_f, cop_neq_t, cop_neq_f, Bool.not_eq_true, Bool.not_eq_false, Bool.not_eq_true', Bool.not_eq_false', Bool.and_eq_true, Bool.or_eq_true, decide_eq_true_eq, decide_eq_false_iff_not, Bool.false_eq_true, Bool.true_eq_false, Option.bind_some, Option.some.injEq, false_iff, true_iff, iff_false, iff_true]; exact hz)]⟩
        · rw [if_neg (by simp only [cop_lss_t, cop_lss_f, cop_leq_t, cop_leq_f, cop_gtr_t, cop_gtr_f, cop_geq_t, cop_geq_f, cop_eql_t, cop_eql_f, cop_neq_t, cop_neq_f, Bool.not_eq_true, Bool.not_eq_false, Bool.not_eq_true', Bool.not_eq_false', Bool.and_eq_true, Bool.or_eq_true, decide_eq_true_eq, decide_eq_false_iff_not, Bool.false_eq_true, Bool.true_eq_false, Option.bind_some, Option.some.injEq, false_iff, true_iff, iff_false, iff_true]; exact hz)]
          exact tail (fun h => hc1 h.2) (fun h => hz h.2) _ rfl
    · rw [if_neg (by simp only [cop_lss_t, cop_lss_f, cop_leq_t, cop_leq_f, cop_gtr_t, cop_gtr_f, cop_geq_t, cop_geq_f, cop_eql_t, cop_eql_f, cop_neq_t, cop_neq_f, Bool.not_eq_true, Bool.not_eq_false, Bool.not_eq_true', Bool.not_eq_false', Bool.and_eq_true, Bool.or_eq_true, decide_eq_true_eq, decide_eq_false_iff_not, Bool.false_eq_true, Bool.true_eq_false, Option.bind_some, Option.some.injEq, false_iff, true_iff, iff_false, iff_true]; omega)]
      by_cases hn0 : 0 < n
      · rw [if_pos (by simp only [cop_lss_t, cop_lss_f, cop_leq_t, cop_leq_f, cop_gtr_t, cop_gtr_f, cop_geq_t, cop_geq_f, cop_eql_t, cop_eql_f, cop_neq_t, cop_neq_f, Bool.not_eq_true, Bool.not_eq_false, Bool.not_eq_true', Bool.not_eq_false', Bool.and_eq_true, Bool.or_eq_true, decide_eq_true_eq, decide_eq_false_iff_not, Bool.false_eq_true, Bool.true_eq_false, Option.bind_some, Option.some.injEq, false_iff, true_iff, iff_false, iff_true]; omega)]
        by_cases hz : c = 0
        · have hrd : rd n (c :: cs) = none := by rw [rd, if_neg fun h => h9 h.1, if_pos ⟨hn0, hz⟩]
          rw [hrd]
          exact ⟨54, by decide, by rw [if_pos (by simp only [cop_lss_t, cop_lss_f, cop_leq_t, cop_leq_f, cop_gtr_t, cop_gtr_f, cop_geq_t, cop_geq_f, cop_eql_t, cop_eql_f, cop_neq_t, cop_neq_f, Bool.not_eq_true, Bool.not_eq_false, Bool.not_eq_true', Bool.not_eq_false', Bool.and_eq_true, Bool.or_eq_true, decide_eq_true_eq, decide_eq_false_iff_not, Bool.false_eq_true, Bool.true_eq_false, Option.bind_some, Option.some.injEq, false_iff, true_iff, iff_false, iff_true]; exact hz)]⟩
        · rw [if_neg (by simp only [cop_lss_t, cop_lss_f, cop_leq_t, cop_leq_f, cop_gtr_t, cop_gtr_f, cop_geq_t, cop_geq_f, cop_eql_t, cop_eql_f, cop_neq_t, cop_neq_f, Bool.not_eq_true, Bool.not_eq_false, Bool.not_eq_true', Bool.not_eq_false', Bool.and_eq_true, Bool.or_eq_true, decide_eq_true_eq, decide_eq_false_iff_not, Bool.false_eq_true, Bool.true_eq_false, Option.bind_some, Option.some.injEq, false_iff, true_iff, iff_false, iff_true]; exact hz)]
          exact tail (fun h => h9 h.1) (fun h => hz h.2) _ rfl
      · rw [if_neg (by simp only [cop_lss_t, cop_lss_f, cop_leq_t, cop_leq_f, cop_gtr_t, cop_gtr_f, cop_geq_t, cop_geq_f, cop_eql_t, cop_eql_f, cop_neq_t, cop_neq_f, Bool.not_eq_true, Bool.not_eq_false, Bool.not_eq_true', Bool.not_eq_false', Bool.and_eq_true, Bool.or_eq_true, decide_eq_true_eq, decide_eq_false_iff_not, Bool.false_eq_true, Bool.true_eq_false, Option.bind_some, Option.some.injEq, false_iff, true_iff, iff_false, iff_true]; omega)]
        exact tail (fun h => h9 h.1) (fun h => hn0 h.1) _ rfl

/-- binenc.Uvarint -/
theorem s100 {bs : List Int} (hb : Bytes bs) (hl : bs.length ≤ 1000000) (off : Nat) (ho : off ≤ bs.length) :
    match rd 0 (bs.drop off) with
    | some (w, k) => g100 (byteCells bs) off = some ((w : Int), ((off + k : Nat) : Int), 0)
    | none => ∃ e, e ≠ 0 ∧ g100 (byteCells bs) off = some (0, 0, e) := by
  have h := l100 hb hl off (bs.drop off) 0 FUEL 0 rfl (by omega) (by omega) (fuel_lt (by rw [List.length_drop]; omega)) (by decide)
  rw [g100_eq, if_neg (by simp only [cop_lss_t, cop_lss_f, cop_leq_t, cop_leq_f, cop_gtr_t, cop_gtr_f, cop_geq_t, cop_geq_f, cop_eql_t, cop_eql_f, cop_neq_t, cop_neq_f, Bool.not_eq_true, Bool.not_eq_false, Bool.not_eq_true', Bool.not_eq_false', Bool.and_eq_true, Bool.or_eq_true, decide_eq_true_eq, decide_eq_false_iff_not, Bool.false_eq_true, Bool.true_eq_false, Option.bind_some, Option.some.injEq, false_iff, true_iff, iff_false, iff_true]; omega), bytes_len, if_neg (by simp only [cop_lss_t, cop_lss_f, cop_leq_t, cop_leq_f, cop_gtr_t, cop_gtr_f, cop_geq_t, cop_geq_f, cop_eql_t, cop_eql_f, cop_neq_t, cop_neq_f, Bool.not_eq_true, Bool.not_eq_false, Bool.not_eq_true', Bool.not_eq_false', Bool.and_eq_true, Bool.or_eq_true, decide_eq_true_eq, decide_eq_false_iff_not, Bool.false_eq_true, Bool.true_eq_false, Option.bind_some, Option.some.injEq, false_iff, true_iff, iff_false, iff_true]; omega)]
  cases hr : rd 0 (bs.drop off) with
  | none => rw [hr] at h; exact h
  | some p =>
    obtain ⟨w, k⟩ := p
    rw [hr] at h
    dsimp only at h ⊢
    rw [show 0 + 2 ^ (7 * 0) * w = w by simp] at h
    exact h

theorem rd_lt : ∀ (l : List Int) (n w k : Nat), Bytes l → n ≤ 9 → rd n l = some (w, k) → w < 2 ^ (64 - 7 * n) ∧ (0 < n → 0 < w) ∧ k ≤ l.length ∧ 0 < k
  | [], n, w, k, _, _, h => by simp [rd] at h
  | c :: cs, n, w, k, hb, hn, h => by
    obtain ⟨c0, c1⟩ := hb c (by simp)
    rw [rd] at h
    split at h
    · cases h
    · rename_i h1
      split at h
      · cases h
      · rename_i h2
        split at h
        · rename_i h3
          simp only [Option.some.injEq, Prod.mk.injEq] at h
          obtain ⟨rfl, rfl⟩ := h
          refine ⟨?_, fun h => by omega, by simp, by decide⟩
          by_cases h9 : n = 9
          · subst h9
            show c.toNat < 2
            omega
          · have : (2 : Nat) ^ 7 ≤ 2 ^ (64 - 7 * n) := Nat.pow_le_pow_right (by decide) (by omega)
            have h7 : (2 : Nat) ^ 7 = 128 := by decide
            omega
        · rename_i h3
          have hn9 : n ≠ 9 := fun he => h1 ⟨he, by omega⟩
          cases hr : rd (n + 1) cs with
          | none => rw [hr] at h; cases h
          | some p =>
            obtain ⟨w', k'⟩ := p
            rw [hr] at h
            simp only [Option.some.injEq, Prod.mk.injEq] at h
            obtain ⟨rfl, rfl⟩ := h
            obtain ⟨g1, g2, g3, g4⟩ := rd_lt cs (n + 1) w' k' (fun z hz => hb z (by simp [hz])) (by omega) hr
            have hp : (2 : Nat) ^ (64 - 7 * n) = 2 ^ (64 - 7 * (n + 1)) * 128 := by
              rw [show 64 - 7 * n = 64 - 7 * (n + 1) + 7 by omega, Nat.pow_add]
            rw [hp]
            have := g2 (by omega)
            exact ⟨by omega, fun _ => by omega, by simp; omega, by omega⟩

/-- What is read is encoded as it was. -/
theorem rd_uv : ∀ (l : List Int) (n w k : Nat), Bytes l → n ≤ 9 → rd n l = some (w, k) → l.take k = uv w
  | [], n, w, k, _, _, h => by simp [rd] at h
  | c :: cs, n, w, k, hb, hn, h => by
    obtain ⟨c0, c1⟩ := hb c (by simp)
    have hlt := (rd_lt (c :: cs) n w k hb hn h).1
    have hw : w < 2 ^ 64 := Nat.lt_of_lt_of_le hlt (Nat.pow_le_pow_right (by decide) (by omega))
    rw [rd] at h
    split at h
    · cases h
    · rename_i h1
      split at h
      · cases h
      · split at h
        · rename_i h3
          simp only [Option.some.injEq, Prod.mk.injEq] at h
          obtain ⟨rfl, rfl⟩ := h
          rw [uv_step hw, if_pos (by omega)]
          simp
          omega
        · rename_i h3
          have hn9 : n ≠ 9 := fun he => h1 ⟨he, by omega⟩
          cases hr : rd (n + 1) cs with
          | none => rw [hr] at h; cases h
          | some p =>
            obtain ⟨w', k'⟩ := p
            rw [hr] at h
            simp only [Option.some.injEq, Prod.mk.injEq] at h
            obtain ⟨rfl, rfl⟩ := h
            have hbs : Bytes cs := fun z hz => hb z (by simp [hz])
            obtain ⟨g1, g2, g3, g4⟩ := rd_lt cs (n + 1) w' k' hbs (by omega) hr
            have := g2 (by omega)
            have ih := rd_uv cs (n + 1) w' k' hbs (by omega) hr
            have ed : ((c - 128).toNat + 128 * w') / 128 = w' := by omega
            have em : ((((c - 128).toNat + 128 * w') % 128 + 128 : Nat) : Int) = c := by omega
            rw [List.take_succ_cons, ih, uv_step hw, if_neg (by omega), ed, em]

/-- What is encoded is read. -/
theorem uv_rd : ∀ (m v n : Nat) (r : List Int), v < 128 ^ m → v < 2 ^ 64 → n + m ≤ 9 → (0 < n → 0 < v) → rd n (uv v ++ r) = some (v, uvN v)
  | 0, v, n, r, h, hv, hn, h0 => by
    have hz : v = 0 := by simpa using h
    subst hz
    have : ¬ 0 < n := fun hh => absurd (h0 hh) (by decide)
    have : n = 0 := by omega
    subst this
    rfl
  | m + 1, v, n, r, h, hv, hn, h0 => by
    rw [uv_step hv, uvN_step hv]
    by_cases hs : v < 128
    · rw [if_pos hs, if_pos hs, List.cons_append, rd, if_neg (by omega), if_neg (by omega), if_pos (by omega)]
      simp
    · have hd : v / 128 < 128 ^ m := by
        rw [Nat.pow_succ] at h
        exact Nat.div_lt_of_lt_mul (by omega)
      rw [if_neg hs, if_neg hs, List.cons_append, rd, if_neg (by omega), if_neg (by omega), if_neg (by omega), uv_rd m (v / 128) (n + 1) r hd (by omega) (by omega) (fun _ => by omega)]
      simp only [Option.some.injEq, Prod.mk.injEq, and_true]
      omega

end Go.Proofs.Ytjfhdhplmibnfaa
