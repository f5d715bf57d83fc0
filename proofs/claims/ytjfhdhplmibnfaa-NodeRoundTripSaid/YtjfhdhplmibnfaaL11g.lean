/- The decoding of capabilities, and its laws. -/
import Derived.Test.YtjfhdhplmibnfaaL11f
namespace Go.Proofs.Ytjfhdhplmibnfaa
open Go Go.AM
set_option linter.unusedSimpArgs false
set_option linter.unusedVariables false

theorem or_nat {a b : Int} (ha : 0 ≤ a) (hb : 0 ≤ b) (ha2 : a < 2 ^ 62) (hb2 : b < 2 ^ 62) : iop .or .i64 a b = ((a.toNat ||| b.toNat : Nat) : Int) := by
  have e62 : (2 : Int) ^ 62 = 4611686018427387904 := by decide
  rw [e62] at ha2 hb2
  show IntKind.wrap .i64 (((BitVec.ofInt 64 a ||| BitVec.ofInt 64 b).toNat : Nat) : Int) = _
  have h64 : (2 : Nat) ^ 64 = 18446744073709551616 := by decide
  have h1 : (BitVec.ofInt 64 a).toNat = a.toNat := by rw [BitVec.toNat_ofInt, h64]; omega
  have h2 : (BitVec.ofInt 64 b).toNat = b.toNat := by rw [BitVec.toNat_ofInt, h64]; omega
  rw [BitVec.toNat_or, h1, h2]
  have hlt : a.toNat ||| b.toNat < 2 ^ 62 := Nat.or_lt_two_pow (by
    have : (2 : Nat) ^ 62 = 4611686018427387904 := by decide
    omega) (by
    have : (2 : Nat) ^ 62 = 4611686018427387904 := by decide
    omega)
  have h62 : (2 : Nat) ^ 62 = 4611686018427387904 := by decide
  have e63 : (2 : Int) ^ 63 = 9223372036854775808 := by decide
  exact wrap_of (by omega) (by omega)

theorem or_shift {a b : Int} {n : Nat} (hn : n ≤ 40) (ha : 0 ≤ a) (ha2 : a < 2 ^ n) (hb : 0 ≤ b) (hb2 : b ≤ 255) : iop .or .i64 a (b * 2 ^ n) = a + b * 2 ^ n := by
  have hp := pow_pos2 n
  have hle : (2 : Int) ^ n ≤ 2 ^ 40 := pow_le2 hn
  have e40 : (2 : Int) ^ 40 = 1099511627776 := by decide
  have e62 : (2 : Int) ^ 62 = 4611686018427387904 := by decide
  have hm : b * 2 ^ n ≤ 255 * 2 ^ n := Int.mul_le_mul_of_nonneg_right hb2 (by omega)
  have hm0 : 0 ≤ b * 2 ^ n := Int.mul_nonneg hb (by omega)
  rw [or_nat ha hm0 (by omega) (by omega)]
  have hbn : (b * 2 ^ n).toNat = b.toNat <<< n := by
    rw [Nat.shiftLeft_eq]
    have : ((b.toNat * 2 ^ n : Nat) : Int) = b * 2 ^ n := by
      rw [Int.natCast_mul, Int.natCast_pow]
      have : ((b.toNat : Nat) : Int) = b := by omega
      rw [this]
      rfl
    omega
  have hlt : a.toNat < 2 ^ n := by
    have : ((2 ^ n : Nat) : Int) = 2 ^ n := by rw [Int.natCast_pow]; rfl
    omega
  have := Nat.shiftLeft_add_eq_or_of_lt hlt b.toNat
  rw [Nat.or_comm, hbn, ← this, ← hbn]
  omega

theorem wrap64u {z : Int} (h0 : 0 ≤ z) (h1 : z ≤ 255) : IntKind.wrap .i64 z = z := wrap_of (by
  have e63 : (2 : Int) ^ 63 = 9223372036854775808 := by decide
  omega) (by
  have e63 : (2 : Int) ^ 63 = 9223372036854775808 := by decide
  omega)

theorem shl_b {z : Int} (n : Nat) (h0 : 0 ≤ z) (h1 : z ≤ 255) (hn : n ≤ 40) : iop .shl .i64 z ((n : Nat) : Int) = z * 2 ^ n := by
  have hp := pow_pos2 n
  have hle : (2 : Int) ^ n ≤ 2 ^ 40 := pow_le2 hn
  have e40 : (2 : Int) ^ 40 = 1099511627776 := by decide
  have e63 : (2 : Int) ^ 63 = 9223372036854775808 := by decide
  have hm : z * 2 ^ n ≤ 255 * 2 ^ n := Int.mul_le_mul_of_nonneg_right h1 (by omega)
  have := shl_i (a := z) (b := (n : Int)) (by omega) (by omega) h0 (by rw [Int.toNat_natCast]; omega)
  rw [Int.toNat_natCast] at this
  exact this

/-- The capability that ten bytes encode. -/
def decCap : List Int → Cap
  | [b0, b1, b2, b3, b4, b5, b6, b7, b8, b9] => ⟨b0, b5 + b6 * 256 + b7 * 65536 + b8 * 16777216 + b9 * 4294967296, b1, b2 % 8, b3, b4, decide (8 ≤ b2)⟩
  | _ => ⟨0, 0, 0, 0, 0, 0, false⟩

def decOk (L : List Int) : Bool := decide (L.length = 10) && decide (L.getD 2 0 ≤ 15) && capOk (decCap L)

/-- captype.Decode -/
def decRes (L : List Int) : Int × Int × Int × Int × Int × Int × Bool × Int :=
  if decOk L = true then ((decCap L).kind, (decCap L).base, (decCap L).bits, (decCap L).rights, (decCap L).width, (decCap L).level, (decCap L).device, 0) else (0, 0, 0, 0, 0, 0, false, 14)

theorem fuel_gen : ∃ f, FUEL = f + 1 + 1 + 1 + 1 + 1 + 1 := fuel6

theorem small_and {r : Int} (h0 : 0 ≤ r) (h1 : r ≤ 15) : iop .and .u8 r 7 = r % 8 ∧ cop .neq (iop .and .u8 r 8) 0 = decide (8 ≤ r) := by
  rcases (by omega : r = 0 ∨ r = 1 ∨ r = 2 ∨ r = 3 ∨ r = 4 ∨ r = 5 ∨ r = 6 ∨ r = 7 ∨ r = 8 ∨ r = 9 ∨ r = 10 ∨ r = 11 ∨ r = 12 ∨ r = 13 ∨ r = 14 ∨ r = 15) with
    rfl | rfl | rfl | rfl | rfl | rfl | rfl | rfl | rfl | rfl | rfl | rfl | rfl | rfl | rfl | rfl <;> decide

theorem s40 {L : List Int} (hb : Bytes L) (hl : L.length ≤ 1000000) : g40 (byteCells L) = some (decRes L) := by
  rw [g40_eq, bytes_len]
  by_cases h10 : L.length = 10
  · rw [if_neg (by simp only [cop_lss_t, cop_lss_f, cop_leq_t, cop_leq_f, cop_gtr_t, cop_gtr_f, cop_geq_t, cop_geq_f, cop_eql_t, cop_eql_f, cop_neq_t, cop_neq_f, Bool.not_eq_true, Bool.not_eq_false, Bool.not_eq_true', Bool.not_eq_false', Bool.and_eq_true, Bool.or_eq_true, decide_eq_true_eq, decide_eq_false_iff_not, Bool.false_eq_true, Bool.true_eq_false, Option.bind_some, Option.some.injEq, false_iff, true_iff, iff_false, iff_true]; omega)]
    obtain ⟨b0, b1, b2, b3, b4, b5, b6, b7, b8, b9, rfl⟩ : ∃ b0 b1 b2 b3 b4 b5 b6 b7 b8 b9, L = [b0, b1, b2, b3, b4, b5, b6, b7, b8, b9] := by
      match L, h10 with
      | [b0, b1, b2, b3, b4, b5, b6, b7, b8, b9], _ => exact ⟨b0, b1, b2, b3, b4, b5, b6, b7, b8, b9, rfl⟩
    obtain ⟨a0, c0⟩ := hb b0 (by simp)
    obtain ⟨a1, c1⟩ := hb b1 (by simp)
    obtain ⟨a2, c2⟩ := hb b2 (by simp)
    obtain ⟨a3, c3⟩ := hb b3 (by simp)
    obtain ⟨a4, c4⟩ := hb b4 (by simp)
    obtain ⟨a5, c5⟩ := hb b5 (by simp)
    obtain ⟨a6, c6⟩ := hb b6 (by simp)
    obtain ⟨a7, c7⟩ := hb b7 (by simp)
    obtain ⟨a8, c8⟩ := hb b8 (by simp)
    obtain ⟨a9, c9⟩ := hb b9 (by simp)
    rw [elem_byte (z := b2) _ (by decide) rfl]
    by_cases h15 : b2 ≤ 15
    · obtain ⟨f, hf⟩ := fuel6
      obtain ⟨k1, k2⟩ := small_and a2 h15
      have k3 : IntKind.wrap .i64 (b2 % 8) = b2 % 8 := wrap64u (by omega) (by omega)
      rw [if_neg (by simp only [cop_lss_t, cop_lss_f, cop_leq_t, cop_leq_f, cop_gtr_t, cop_gtr_f, cop_geq_t, cop_geq_f, cop_eql_t, cop_eql_f, cop_neq_t, cop_neq_f, Bool.not_eq_true, Bool.not_eq_false, Bool.not_eq_true', Bool.not_eq_false', Bool.and_eq_true, Bool.or_eq_true, decide_eq_true_eq, decide_eq_false_iff_not, Bool.false_eq_true, Bool.true_eq_false, Option.bind_some, Option.some.injEq, false_iff, true_iff, iff_false, iff_true]; omega), elem_byte (z := b0) _ (by decide) rfl, elem_byte (z := b1) _ (by decide) rfl, elem_byte (z := b2) _ (by decide) rfl, elem_byte (z := b3) _ (by decide) rfl, elem_byte (z := b4) _ (by decide) rfl, elem_byte (z := b2) _ (by decide) rfl,
        k1, k2, k3, wrap64u a0 c0, wrap64u a1 c1, wrap64u a3 c3, wrap64u a4 c4, hf]
      have v0 : iop .mul .i64 8 0 = ((0 : Nat) : Int) := by decide
      have v1 : iop .mul .i64 8 1 = ((8 : Nat) : Int) := by decide
      have v2 : iop .mul .i64 8 2 = ((16 : Nat) : Int) := by decide
      have v3 : iop .mul .i64 8 3 = ((24 : Nat) : Int) := by decide
      have v4 : iop .mul .i64 8 4 = ((32 : Nat) : Int) := by decide
      have p0 : (2 : Int) ^ 0 = 1 := by decide
      have p1 : (2 : Int) ^ 8 = 256 := by decide
      have p2 : (2 : Int) ^ 16 = 65536 := by decide
      have p3 : (2 : Int) ^ 24 = 16777216 := by decide
      have p4 : (2 : Int) ^ 32 = 4294967296 := by decide
      have o0 : iop .or .i64 0 (b5 * 2 ^ 0) = b5 := by rw [or_shift (by decide) (by decide) (by decide) a5 c5]; omega
      have o1 : iop .or .i64 b5 (b6 * 2 ^ 8) = b5 + b6 * 256 := by rw [or_shift (by decide) a5 (by omega) a6 c6, p1]
      have o2 : iop .or .i64 (b5 + b6 * 256) (b7 * 2 ^ 16) = b5 + b6 * 256 + b7 * 65536 := by rw [or_shift (by decide) (by omega) (by omega) a7 c7, p2]
      have o3 : iop .or .i64 (b5 + b6 * 256 + b7 * 65536) (b8 * 2 ^ 24) = b5 + b6 * 256 + b7 * 65536 + b8 * 16777216 := by rw [or_shift (by decide) (by omega) (by omega) a8 c8, p3]
      have o4 : iop .or .i64 (b5 + b6 * 256 + b7 * 65536 + b8 * 16777216) (b9 * 2 ^ 32) = b5 + b6 * 256 + b7 * 65536 + b8 * 16777216 + b9 * 4294967296 := by rw [or_shift (by decide) (by omega) (by omega) a9 c9, p4]
      rw [g40L0_eq, if_pos (by decide), show iop .add .i64 5 0 = 5 by decide, elem_byte (z := b5) _ (by decide) rfl, reqK_pos (by decide), v0, wrap64u a5 c5, shl_b 0 a5 c5 (by decide), o0, show iop .add .i64 0 1 = 1 by decide,
        g40L0_eq, if_pos (by decide), show iop .add .i64 5 1 = 6 by decide, elem_byte (z := b6) _ (by decide) rfl, reqK_pos (by decide), v1, wrap64u a6 c6, shl_b 8 a6 c6 (by decide), o1, show iop .add .i64 1 1 = 2 by decide,
        g40L0_eq, if_pos (by decide), show iop .add .i64 5 2 = 7 by decide, elem_byte (z := b7) _ (by decide) rfl, reqK_pos (by decide), v2, wrap64u a7 c7, shl_b 16 a7 c7 (by decide), o2, show iop .add .i64 2 1 = 3 by decide,
        g40L0_eq, if_pos (by decide), show iop .add .i64 5 3 = 8 by decide, elem_byte (z := b8) _ (by decide) rfl, reqK_pos (by decide), v3, wrap64u a8 c8, shl_b 24 a8 c8 (by decide), o3, show iop .add .i64 3 1 = 4 by decide,
        g40L0_eq, if_pos (by decide), show iop .add .i64 5 4 = 9 by decide, elem_byte (z := b9) _ (by decide) rfl, reqK_pos (by decide), v4, wrap64u a9 c9, shl_b 32 a9 c9 (by decide), o4, show iop .add .i64 4 1 = 5 by decide,
        g40L0_eq, if_neg (by decide), s28]
      simp only [Option.bind_some]
      have hd : decOk [b0, b1, b2, b3, b4, b5, b6, b7, b8, b9] = capOk (decCap [b0, b1, b2, b3, b4, b5, b6, b7, b8, b9]) := by simp [decOk, h15]
      simp only [decRes, hd, decCap]
      cases capOk ⟨b0, b5 + b6 * 256 + b7 * 65536 + b8 * 16777216 + b9 * 4294967296, b1, b2 % 8, b3, b4, decide (8 ≤ b2)⟩ <;> simp
    · rw [if_pos (by simp only [cop_lss_t, cop_lss_f, cop_leq_t, cop_leq_f, cop_gtr_t, cop_gtr_f, cop_geq_t, cop_geq_f, cop_eql_t, cop_eql_f, cop_neq_t, cop_neq_f, Bool.not_eq_true, Bool.not_eq_false, Bool.not_eq_true', Bool.not_eq_false', Bool.and_eq_true, Bool.or_eq_true, decide_eq_true_eq, decide_eq_false_iff_not, Bool.false_eq_true, Bool.true_eq_false, Option.bind_some, Option.some.injEq, false_iff, true_iff, iff_false, iff_true]; omega)]
      have : decOk [b0, b1, b2, b3, b4, b5, b6, b7, b8, b9] = false := by simp [decOk, h15]
      simp [decRes, this]
  · rw [if_pos (by simp only [cop_lss_t, cop_lss_f, cop_leq_t, cop_leq_f, cop_gtr_t, cop_gtr_f, cop_geq_t, cop_geq_f, cop_eql_t, cop_eql_f, cop_neq_t, cop_neq_f, Bool.not_eq_true, Bool.not_eq_false, Bool.not_eq_true', Bool.not_eq_false', Bool.and_eq_true, Bool.or_eq_true, decide_eq_true_eq, decide_eq_false_iff_not, Bool.false_eq_true, Bool.true_eq_false, Option.bind_some, Option.some.injEq, false_iff, true_iff, iff_false, iff_true]; omega)]
    have : decOk L = false := by simp [decOk, h10]
    simp [decRes, this]

theorem s41 {L : List Int} (hb : Bytes L) (hl : L.length ≤ 1000000) : g41 (byteCells L) = some (decRes L) := by
  rw [g41_eq, bytes_len]
  by_cases h10 : L.length = 10
  · rw [if_neg (by simp only [cop_lss_t, cop_lss_f, cop_leq_t, cop_leq_f, cop_gtr_t, cop_gtr_f, cop_geq_t, cop_geq_f, cop_eql_t, cop_eql_f, cop_neq_t, cop_neq_f, Bool.not_eq_true, Bool.not_eq_false, Bool.not_eq_true', Bool.not_eq_false', Bool.and_eq_true, Bool.or_eq_true, decide_eq_true_eq, decide_eq_false_iff_not, Bool.false_eq_true, Bool.true_eq_false, Option.bind_some, Option.some.injEq, false_iff, true_iff, iff_false, iff_true]; omega)]
    obtain ⟨b0, b1, b2, b3, b4, b5, b6, b7, b8, b9, rfl⟩ : ∃ b0 b1 b2 b3 b4 b5 b6 b7 b8 b9, L = [b0, b1, b2, b3, b4, b5, b6, b7, b8, b9] := by
      match L, h10 with
      | [b0, b1, b2, b3, b4, b5, b6, b7, b8, b9], _ => exact ⟨b0, b1, b2, b3, b4, b5, b6, b7, b8, b9, rfl⟩
    obtain ⟨a0, c0⟩ := hb b0 (by simp)
    obtain ⟨a1, c1⟩ := hb b1 (by simp)
    obtain ⟨a2, c2⟩ := hb b2 (by simp)
    obtain ⟨a3, c3⟩ := hb b3 (by simp)
    obtain ⟨a4, c4⟩ := hb b4 (by simp)
    obtain ⟨a5, c5⟩ := hb b5 (by simp)
    obtain ⟨a6, c6⟩ := hb b6 (by simp)
    obtain ⟨a7, c7⟩ := hb b7 (by simp)
    obtain ⟨a8, c8⟩ := hb b8 (by simp)
    obtain ⟨a9, c9⟩ := hb b9 (by simp)
    obtain ⟨f, hf⟩ := fuel6
    have v0 : IntKind.wrap .u64 (iop .mul .i64 8 0) = ((0 : Nat) : Int) := by decide
    have v1 : IntKind.wrap .u64 (iop .mul .i64 8 1) = ((8 : Nat) : Int) := by decide
    have v2 : IntKind.wrap .u64 (iop .mul .i64 8 2) = ((16 : Nat) : Int) := by decide
    have v3 : IntKind.wrap .u64 (iop .mul .i64 8 3) = ((24 : Nat) : Int) := by decide
    have v4 : IntKind.wrap .u64 (iop .mul .i64 8 4) = ((32 : Nat) : Int) := by decide
    have p0 : (2 : Int) ^ 0 = 1 := by decide
    have p1 : (2 : Int) ^ 8 = 256 := by decide
    have p2 : (2 : Int) ^ 16 = 65536 := by decide
    have p3 : (2 : Int) ^ 24 = 16777216 := by decide
    have p4 : (2 : Int) ^ 32 = 4294967296 := by decide
    have o0 : iop .add .i64 0 (b5 * 2 ^ 0) = b5 := by rw [add_i (by omega) (by omega)]; omega
    have o1 : iop .add .i64 b5 (b6 * 2 ^ 8) = b5 + b6 * 256 := by rw [p1, add_i (by omega) (by omega)]
    have o2 : iop .add .i64 (b5 + b6 * 256) (b7 * 2 ^ 16) = b5 + b6 * 256 + b7 * 65536 := by rw [p2, add_i (by omega) (by omega)]
    have o3 : iop .add .i64 (b5 + b6 * 256 + b7 * 65536) (b8 * 2 ^ 24) = b5 + b6 * 256 + b7 * 65536 + b8 * 16777216 := by rw [p3, add_i (by omega) (by omega)]
    have o4 : iop .add .i64 (b5 + b6 * 256 + b7 * 65536 + b8 * 16777216) (b9 * 2 ^ 32) = b5 + b6 * 256 + b7 * 65536 + b8 * 16777216 + b9 * 4294967296 := by rw [p4, add_i (by omega) (by omega)]
    have hrem : iop .rem .i64 b2 8 = b2 % 8 := Int.tmod_eq_emod_of_nonneg a2
    have hge : cop .geq b2 8 = decide (8 ≤ b2) := rfl
    rw [hf, g41L0_eq, if_pos (by decide), show iop .add .i64 5 0 = 5 by decide, elem_byte (z := b5) _ (by decide) rfl, reqK_pos (by decide), v0, wrap64u a5 c5, shl_b 0 a5 c5 (by decide), o0, show iop .add .i64 0 1 = 1 by decide,
      g41L0_eq, if_pos (by decide), show iop .add .i64 5 1 = 6 by decide, elem_byte (z := b6) _ (by decide) rfl, reqK_pos (by decide), v1, wrap64u a6 c6, shl_b 8 a6 c6 (by decide), o1, show iop .add .i64 1 1 = 2 by decide,
      g41L0_eq, if_pos (by decide), show iop .add .i64 5 2 = 7 by decide, elem_byte (z := b7) _ (by decide) rfl, reqK_pos (by decide), v2, wrap64u a7 c7, shl_b 16 a7 c7 (by decide), o2, show iop .add .i64 2 1 = 3 by decide,
      g41L0_eq, if_pos (by decide), show iop .add .i64 5 3 = 8 by decide, elem_byte (z := b8) _ (by decide) rfl, reqK_pos (by decide), v3, wrap64u a8 c8, shl_b 24 a8 c8 (by decide), o3, show iop .add .i64 3 1 = 4 by decide,
      g41L0_eq, if_pos (by decide), show iop .add .i64 5 4 = 9 by decide, elem_byte (z := b9) _ (by decide) rfl, reqK_pos (by decide), v4, wrap64u a9 c9, shl_b 32 a9 c9 (by decide), o4, show iop .add .i64 4 1 = 5 by decide,
      g41L0_eq, if_neg (by decide), elem_byte (z := b0) _ (by decide) rfl, elem_byte (z := b1) _ (by decide) rfl, elem_byte (z := b2) _ (by decide) rfl, reqK_pos (by decide), elem_byte (z := b3) _ (by decide) rfl, elem_byte (z := b4) _ (by decide) rfl, elem_byte (z := b2) _ (by decide) rfl, elem_byte (z := b2) _ (by decide) rfl,
      wrap64u a0 c0, wrap64u a1 c1, wrap64u a2 c2, wrap64u a3 c3, wrap64u a4 c4, hrem, hge, s33]
    simp only [Option.bind_some]
    by_cases h15 : b2 ≤ 15
    · rw [if_neg (by simp only [cop_lss_t, cop_lss_f, cop_leq_t, cop_leq_f, cop_gtr_t, cop_gtr_f, cop_geq_t, cop_geq_f, cop_eql_t, cop_eql_f, cop_neq_t, cop_neq_f, Bool.not_eq_true, Bool.not_eq_false, Bool.not_eq_true', Bool.not_eq_false', Bool.and_eq_true, Bool.or_eq_true, decide_eq_true_eq, decide_eq_false_iff_not, Bool.false_eq_true, Bool.true_eq_false, Option.bind_some, Option.some.injEq, false_iff, true_iff, iff_false, iff_true]; omega)]
      have hd : decOk [b0, b1, b2, b3, b4, b5, b6, b7, b8, b9] = capOk (decCap [b0, b1, b2, b3, b4, b5, b6, b7, b8, b9]) := by simp [decOk, h15]
      simp only [decRes, hd, decCap]
      cases capOk ⟨b0, b5 + b6 * 256 + b7 * 65536 + b8 * 16777216 + b9 * 4294967296, b1, b2 % 8, b3, b4, decide (8 ≤ b2)⟩ <;> simp
    · rw [if_pos (by simp only [cop_lss_t, cop_lss_f, cop_leq_t, cop_leq_f, cop_gtr_t, cop_gtr_f, cop_geq_t, cop_geq_f, cop_eql_t, cop_eql_f, cop_neq_t, cop_neq_f, Bool.not_eq_true, Bool.not_eq_false, Bool.not_eq_true', Bool.not_eq_false', Bool.and_eq_true, Bool.or_eq_true, decide_eq_true_eq, decide_eq_false_iff_not, Bool.false_eq_true, Bool.true_eq_false, Option.bind_some, Option.some.injEq, false_iff, true_iff, iff_false, iff_true]; omega)]
      have : decOk [b0, b1, b2, b3, b4, b5, b6, b7, b8, b9] = false := by simp [decOk, h15]
      simp [decRes, this]
  · rw [if_pos (by simp only [cop_lss_t, cop_lss_f, cop_leq_t, cop_leq_f, cop_gtr_t, cop_gtr_f, cop_geq_t, cop_geq_f, cop_eql_t, cop_eql_f, cop_neq_t, cop_neq_f, Bool.not_eq_true, Bool.not_eq_false, Bool.not_eq_true', Bool.not_eq_false', Bool.and_eq_true, Bool.or_eq_true, decide_eq_true_eq, decide_eq_false_iff_not, Bool.false_eq_true, Bool.true_eq_false, Option.bind_some, Option.some.injEq, false_iff, true_iff, iff_false, iff_true]; omega)]
    have : decOk L = false := by simp [decOk, h10]
    simp [decRes, this]

theorem enc_bytes (c : Cap) : Bytes (encB c) := by
  unfold encB
  split
  · rename_i h
    obtain ⟨h1, h2, h3, h4, h5, h6, h7, h8, h9, h10, h11, h12⟩ := cap_nums h
    intro z hz
    simp only [capCode, List.mem_cons, List.not_mem_nil, or_false] at hz
    rcases hz with rfl | rfl | rfl | rfl | rfl | rfl | rfl | rfl | rfl | rfl
    · omega
    · omega
    · split <;> omega
    all_goals omega
  · intro z hz
    simp at hz

theorem s10 (k b s r w l : Int) (d : Bool) (L : List Int) (hb : Bytes L) : g10 k b s r w l d (byteCells L) = some true := by
  rw [g10_eq, bytes_len]
  refine ite_goal (fun _ => by rw [s23]; rfl) fun hl => ?_
  simp only [cop_lss_t, cop_lss_f, cop_leq_t, cop_leq_f, cop_gtr_t, cop_gtr_f, cop_geq_t, cop_geq_f, cop_eql_t, cop_eql_f, cop_neq_t, cop_neq_f, Bool.not_eq_true, Bool.not_eq_false, Bool.not_eq_true', Bool.not_eq_false', Bool.and_eq_true, Bool.or_eq_true, decide_eq_true_eq, decide_eq_false_iff_not, Bool.false_eq_true, Bool.true_eq_false, Option.bind_some, Option.some.injEq, false_iff, true_iff, iff_false, iff_true] at hl
  rw [s38, s39, s40 hb (by omega), s41 hb (by omega)]
  simp only [Option.bind_some]
  rw [reqK_pos (room1 (by simp) (by rw [bytes_len]; omega)), reqK_pos (bytes_ok (enc_bytes _)), reqK_pos (bytes_ok (enc_bytes _)), if_pos (by simp), if_pos (by simp [cop]), if_pos (by simp [cop]), if_pos (by simp [cop]), s23]
  rfl

theorem dec_enc {c : Cap} (h : capOk c = true) : decCap (encB c) = c ∧ decOk (encB c) = true := by
  obtain ⟨h1, h2, h3, h4, h5, h6, h7, h8, h9, h10, h11, h12⟩ := cap_nums h
  have hc : decCap (encB c) = c := by
    obtain ⟨k, b, s, r, w, l, d⟩ := c
    simp only [encB, h, if_true, capCode, decCap] at *
    cases d
    · simp only [Bool.false_eq_true, if_false]
      congr 1
      · omega
      · omega
      · simp; omega
    · simp only [if_true]
      congr 1
      · omega
      · omega
      · simp; omega
  refine ⟨hc, ?_⟩
  simp only [decOk, hc, h, Bool.and_true, Bool.and_eq_true, decide_eq_true_eq]
  simp only [encB, h, if_true, capCode]
  refine ⟨rfl, ?_⟩
  simp only [List.getD_cons_succ, List.getD_cons_zero]
  split <;> omega

theorem enc_dec {L : List Int} (hb : Bytes L) (h : decOk L = true) : encB (decCap L) = L := by
  simp only [decOk, Bool.and_eq_true, decide_eq_true_eq] at h
  obtain ⟨⟨h10, h15⟩, hc⟩ := h
  obtain ⟨b0, b1, b2, b3, b4, b5, b6, b7, b8, b9, rfl⟩ : ∃ b0 b1 b2 b3 b4 b5 b6 b7 b8 b9, L = [b0, b1, b2, b3, b4, b5, b6, b7, b8, b9] := by
    match L, h10 with
    | [b0, b1, b2, b3, b4, b5, b6, b7, b8, b9], _ => exact ⟨b0, b1, b2, b3, b4, b5, b6, b7, b8, b9, rfl⟩
  obtain ⟨a2, c2⟩ := hb b2 (by simp)
  obtain ⟨a5, c5⟩ := hb b5 (by simp)
  obtain ⟨a6, c6⟩ := hb b6 (by simp)
  obtain ⟨a7, c7⟩ := hb b7 (by simp)
  obtain ⟨a8, c8⟩ := hb b8 (by simp)
  obtain ⟨a9, c9⟩ := hb b9 (by simp)
  simp only [List.getD_cons_succ, List.getD_cons_zero] at h15
  simp only [encB, hc, if_true, capCode]
  simp only [decCap, decide_eq_true_eq, List.cons.injEq, true_and, and_true]
  refine ⟨?_, ?_, ?_, ?_, ?_, ?_⟩
  · split <;> omega
  all_goals omega

theorem s11 (x0 x1 x2 x3 x4 : Int) (L : List Int) (hb : Bytes L) : g11 x0 x1 x2 x3 x4 (byteCells L) = some true := by
  rw [g11_eq, bytes_len]
  refine ite_goal (fun _ => by rw [s23]; rfl) fun hl => ?_
  simp only [cop_lss_t, cop_lss_f, cop_leq_t, cop_leq_f, cop_gtr_t, cop_gtr_f, cop_geq_t, cop_geq_f, cop_eql_t, cop_eql_f, cop_neq_t, cop_neq_f, Bool.not_eq_true, Bool.not_eq_false, Bool.not_eq_true', Bool.not_eq_false', Bool.and_eq_true, Bool.or_eq_true, decide_eq_true_eq, decide_eq_false_iff_not, Bool.false_eq_true, Bool.true_eq_false, Option.bind_some, Option.some.injEq, false_iff, true_iff, iff_false, iff_true] at hl
  obtain ⟨c, hc, h25⟩ := s25 x0 x1 x2 x3 x4
  obtain ⟨e1, e2⟩ := dec_enc hc
  have hlen : (encB c).length = 10 := by simp [encB, hc, capCode]
  have he0 : encE c = 0 := by simp [encE, hc]
  rw [h25]
  simp only [Option.bind_some]
  rw [s38]
  simp only [Option.bind_some]
  have eta : (⟨c.kind, c.base, c.bits, c.rights, c.width, c.level, c.device⟩ : Cap) = c := rfl
  rw [eta, s40 (enc_bytes c) (by omega)]
  simp only [Option.bind_some, decRes, e2, if_true, e1, bytes_len, hlen, he0]
  rw [if_neg (by decide), if_neg (by decide), if_neg (by simp [cop]), if_neg (by decide), s40 hb (by omega)]
  simp only [Option.bind_some]
  by_cases hd : decOk L = true
  · have hcd : capOk (decCap L) = true := by
      simp only [decOk, Bool.and_eq_true] at hd
      exact hd.2
    have he1 : encE (decCap L) = 0 := by simp [encE, hcd]
    have eta2 : (⟨(decCap L).kind, (decCap L).base, (decCap L).bits, (decCap L).rights, (decCap L).width, (decCap L).level, (decCap L).device⟩ : Cap) = decCap L := rfl
    simp only [decRes, hd, if_true]
    rw [if_neg (by decide), s38]
    simp only [Option.bind_some]
    rw [eta2, he1, if_pos (by decide), enc_dec hb hd, reqK_pos (bytes_ok hb), reqK_pos (bytes_ok hb), if_pos (by simp), s28, eta2, hcd, s23]
    rfl
  · simp only [decRes, if_neg hd]
    rw [if_pos (by decide), if_pos (by decide), s23]
    rfl

end Go.Proofs.Ytjfhdhplmibnfaa
