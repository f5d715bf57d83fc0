/- L11g, L12h, L12i, L12j, L12k, L12l, L12m, L12n: texts of the proof, put together. -/
import Derived.Test.YtjfhdhplmibnfaaM4

section
namespace Go.Proofs.Ytjfhdhplmibnfaa
open Go Go.AM
set_option linter.unusedSimpArgs false
set_option linter.unusedVariables false

theorem or_nat {a b : Int} (ha : 0 ≤ a) (hb : 0 ≤ b) (ha2 : a < 2 ^ 62) (hb2 : b < 2 ^ 62) : iop .or .i64 a b = ((a.toNat ||| b.toNat : Nat) : Int) := by
  have e62 : (2 : Int) ^ 62 = 4611686018427387904 := by decide
  rw [e62] at ha2 hb2
  show IntKind.wrap .i64 (((BitVec.ofInt 64 a ||| BitVec.ofInt 64 b).toNat : Nat) : Int) = _
  have h64 : (2 : Nat) ^ 64 = 18446744073709551616 := by decide
  have h1 : (BitVec.ofInt 64 a).toNat = a.toNat := by rw [BitVec.toNat_ofInt, h64]; omega
  have h2 : (BitVec.ofInt 64 b).toNat = b.toNat := by rw [BitVec.toNat_ofInt, h64]; omega
  rw [BitVec.toNat_or, h1, h2]
  have hlt : a.toNat ||| b.toNat < 2 ^ 62 := Nat.or_lt_two_pow (by
    have : (2 : Nat) ^ 62 = 4611686018427387904 := by decide
    omega) (by
    have : (2 : Nat) ^ 62 = 4611686018427387904 := by decide
    omega)
  have h62 : (2 : Nat) ^ 62 = 4611686018427387904 := by decide
  have e63 : (2 : Int) ^ 63 = 9223372036854775808 := by decide
  exact wrap_of (by omega) (by omega)

theorem or_shift {a b : Int} {n : Nat} (hn : n ≤ 40) (ha : 0 ≤ a) (ha2 : a < 2 ^ n) (hb : 0 ≤ b) (hb2 : b ≤ 255) : iop .or .i64 a (b * 2 ^ n) = a + b * 2 ^ n := by
  have hp := pow_pos2 n
  have hle : (2 : Int) ^ n ≤ 2 ^ 40 := pow_le2 hn
  have e40 : (2 : Int) ^ 40 = 1099511627776 := by decide
  have e62 : (2 : Int) ^ 62 = 4611686018427387904 := by decide
  have hm : b * 2 ^ n ≤ 255 * 2 ^ n := Int.mul_le_mul_of_nonneg_right hb2 (by omega)
  have hm0 : 0 ≤ b * 2 ^ n := Int.mul_nonneg hb (by omega)
  rw [or_nat ha hm0 (by omega) (by omega)]
  have hbn : (b * 2 ^ n).toNat = b.toNat <<< n := by
    rw [Nat.shiftLeft_eq]
    have : ((b.toNat * 2 ^ n : Nat) : Int) = b * 2 ^ n := by
      rw [Int.natCast_mul, Int.natCast_pow]
      have : ((b.toNat : Nat) : Int) = b := by omega
      rw [this]
      rfl
    omega
  have hlt : a.toNat < 2 ^ n := by
    have : ((2 ^ n : Nat) : Int) = 2 ^ n := by rw [Int.natCast_pow]; rfl
    omega
  have := Nat.shiftLeft_add_eq_or_of_lt hlt b.toNat
  rw [Nat.or_comm, hbn, ← this, ← hbn]
  omega

theorem wrap64u {z : Int} (h0 : 0 ≤ z) (h1 : z ≤ 255) : IntKind.wrap .i64 z = z := wrap_of (by
  have e63 : (2 : Int) ^ 63 = 9223372036854775808 := by decide
  omega) (by
  have e63 : (2 : Int) ^ 63 = 9223372036854775808 := by decide
  omega)

theorem shl_b {z : Int} (n : Nat) (h0 : 0 ≤ z) (h1 : z ≤ 255) (hn : n ≤ 40) : iop .shl .i64 z ((n : Nat) : Int) = z * 2 ^ n := by
  have hp := pow_pos2 n
  have hle : (2 : Int) ^ n ≤ 2 ^ 40 := pow_le2 hn
  have e40 : (2 : Int) ^ 40 = 1099511627776 := by decide
  have e63 : (2 : Int) ^ 63 = 9223372036854775808 := by decide
  have hm : z * 2 ^ n ≤ 255 * 2 ^ n := Int.mul_le_mul_of_nonneg_right h1 (by omega)
  have := shl_i (a := z) (b := (n : Int)) (by omega) (by omega) h0 (by rw [Int.toNat_natCast]; omega)
  rw [Int.toNat_natCast] at this
  exact this

/-- The capability that ten bytes encode. -/
def decCap : List Int → Cap
  | [b0, b1, b2, b3, b4, b5, b6, b7, b8, b9] => ⟨b0, b5 + b6 * 256 + b7 * 65536 + b8 * 16777216 + b9 * 4294967296, b1, b2 % 8, b3, b4, decide (8 ≤ b2)⟩
  | _ => ⟨0, 0, 0, 0, 0, 0, false⟩

def decOk (L : List Int) : Bool := decide (L.length = 10) && decide (L.getD 2 0 ≤ 15) && capOk (decCap L)

/-- captype.Decode -/
def decRes (L : List Int) : Int × Int × Int × Int × Int × Int × Bool × Int :=
  if decOk L = true then ((decCap L).kind, (decCap L).base, (decCap L).bits, (decCap L).rights, (decCap L).width, (decCap L).level, (decCap L).device, 0) else (0, 0, 0, 0, 0, 0, false, 14)

theorem fuel_gen : ∃ f, FUEL = f + 1 + 1 + 1 + 1 + 1 + 1 := fuel6

theorem small_and {r : Int} (h0 : 0 ≤ r) (h1 : r ≤ 15) : iop .and .u8 r 7 = r % 8 ∧ cop .neq (iop .and .u8 r 8) 0 = decide (8 ≤ r) := by
  rcases (by omega : r = 0 ∨ r = 1 ∨ r = 2 ∨ r = 3 ∨ r = 4 ∨ r = 5 ∨ r = 6 ∨ r = 7 ∨ r = 8 ∨ r = 9 ∨ r = 10 ∨ r = 11 ∨ r = 12 ∨ r = 13 ∨ r = 14 ∨ r = 15) with
    rfl | rfl | rfl | rfl | rfl | rfl | rfl | rfl | rfl | rfl | rfl | rfl | rfl | rfl | rfl | rfl <;> decide

theorem s40 {L : List Int} (hb : Bytes L) (hl : L.length ≤ 1000000) : g40 (byteCells L) = some (decRes L) := by
  rw [g40_eq, bytes_len]
  by_cases h10 : L.length = 10
  · rw [if_neg (by simp only [cop_lss_t, cop_lss_f, cop_leq_t, cop_leq_f, cop_gtr_t, cop_gtr_f, cop_geq_t, cop_geq_f, cop_eql_t, cop_eql_f, cop_neq_t, cop_neq_f, Bool.not_eq_true, Bool.not_eq_false, Bool.not_eq_true', Bool.not_eq_false', Bool.and_eq_true, Bool.or_eq_true, decide_eq_true_eq, decide_eq_false_iff_not, Bool.false_eq_true, Bool.true_eq_false, Option.bind_some, Option.some.injEq, false_iff, true_iff, iff_false, iff_true]; omega)]
    obtain ⟨b0, b1, b2, b3, b4, b5, b6, b7, b8, b9, rfl⟩ : ∃ b0 b1 b2 b3 b4 b5 b6 b7 b8 b9, L = [b0, b1, b2, b3, b4, b5, b6, b7, b8, b9] := by
      match L, h10 with
      | [b0, b1, b2, b3, b4, b5, b6, b7, b8, b9], _ => exact ⟨b0, b1, b2, b3, b4, b5, b6, b7, b8, b9, rfl⟩
    obtain ⟨a0, c0⟩ := hb b0 (by simp)
    obtain ⟨a1, c1⟩ := hb b1 (by simp)
    obtain ⟨a2, c2⟩ := hb b2 (by simp)
    obtain ⟨a3, c3⟩ := hb b3 (by simp)
    obtain ⟨a4, c4⟩ := hb b4 (by simp)
    obtain ⟨a5, c5⟩ := hb b5 (by simp)
    obtain ⟨a6, c6⟩ := hb b6 (by simp)
    obtain ⟨a7, c7⟩ := hb b7 (by simp)
    obtain ⟨a8, c8⟩ := hb b8 (by simp)
    obtain ⟨a9, c9⟩ := hb b9 (by simp)
    rw [elem_byte (z := b2) _ (by decide) rfl]
    by_cases h15 : b2 ≤ 15
    · obtain ⟨f, hf⟩ := fuel6
      obtain ⟨k1, k2⟩ := small_and a2 h15
      have k3 : IntKind.wrap .i64 (b2 % 8) = b2 % 8 := wrap64u (by omega) (by omega)
      rw [if_neg (by simp only [cop_lss_t, cop_lss_f, cop_leq_t, cop_leq_f, cop_gtr_t, cop_gtr_f, cop_geq_t, cop_geq_f, cop_eql_t, cop_eql_f, cop_neq_t, cop_neq_f, Bool.not_eq_true, Bool.not_eq_false, Bool.not_eq_true', Bool.not_eq_false', Bool.and_eq_true, Bool.or_eq_true, decide_eq_true_eq, decide_eq_false_iff_not, Bool.false_eq_true, Bool.true_eq_false, Option.bind_some, Option.some.injEq, false_iff, true_iff, iff_false, iff_true]; omega), elem_byte (z := b0) _ (by decide) rfl, elem_byte (z := b1) _ (by decide) rfl, elem_byte (z := b2) _ (by decide) rfl, elem_byte (z := b3) _ (by decide) rfl, elem_byte (z := b4) _ (by decide) rfl, elem_byte (z := b2) _ (by decide) rfl,
        k1, k2, k3, wrap64u a0 c0, wrap64u a1 c1, wrap64u a3 c3, wrap64u a4 c4, hf]
      have v0 : iop .mul .i64 8 0 = ((0 : Nat) : Int) := by decide
      have v1 : iop .mul .i64 8 1 = ((8 : Nat) : Int) := by decide
      have v2 : iop .mul .i64 8 2 = ((16 : Nat) : Int) := by decide
      have v3 : iop .mul .i64 8 3 = ((24 : Nat) : Int) := by decide
      have v4 : iop .mul .i64 8 4 = ((32 : Nat) : Int) := by decide
      have p0 : (2 : Int) ^ 0 = 1 := by decide
      have p1 : (2 : Int) ^ 8 = 256 := by decide
      have p2 : (2 : Int) ^ 16 = 65536 := by decide
      have p3 : (2 : Int) ^ 24 = 16777216 := by decide
      have p4 : (2 : Int) ^ 32 = 4294967296 := by decide
      have o0 : iop .or .i64 0 (b5 * 2 ^ 0) = b5 := by rw [or_shift (by decide) (by decide) (by decide) a5 c5]; omega
      have o1 : iop .or .i64 b5 (b6 * 2 ^ 8) = b5 + b6 * 256 := by rw [or_shift (by decide) a5 (by omega) a6 c6, p1]
      have o2 : iop .or .i64 (b5 + b6 * 256) (b7 * 2 ^ 16) = b5 + b6 * 256 + b7 * 65536 := by rw [or_shift (by decide) (by omega) (by omega) a7 c7, p2]
      have o3 : iop .or .i64 (b5 + b6 * 256 + b7 * 65536) (b8 * 2 ^ 24) = b5 + b6 * 256 + b7 * 65536 + b8 * 16777216 := by rw [or_shift (by decide) (by omega) (by omega) a8 c8, p3]
      have o4 : iop .or .i64 (b5 + b6 * 256 + b7 * 65536 + b8 * 16777216) (b9 * 2 ^ 32) = b5 + b6 * 256 + b7 * 65536 + b8 * 16777216 + b9 * 4294967296 := by rw [or_shift (by decide) (by omega) (by omega) a9 c9, p4]
      rw [g40L0_eq, if_pos (by decide), show iop .add .i64 5 0 = 5 by decide, elem_byte (z := b5) _ (by decide) rfl, reqK_pos (by decide), v0, wrap64u a5 c5, shl_b 0 a5 c5 (by decide), o0, show iop .add .i64 0 1 = 1 by decide,
        g40L0_eq, if_pos (by decide), show iop .add .i64 5 1 = 6 by decide, elem_byte (z := b6) _ (by decide) rfl, reqK_pos (by decide), v1, wrap64u a6 c6, shl_b 8 a6 c6 (by decide), o1, show iop .add .i64 1 1 = 2 by decide,
        g40L0_eq, if_pos (by decide), show iop .add .i64 5 2 = 7 by decide, elem_byte (z := b7) _ (by decide) rfl, reqK_pos (by decide), v2, wrap64u a7 c7, shl_b 16 a7 c7 (by decide), o2, show iop .add .i64 2 1 = 3 by decide,
        g40L0_eq, if_pos (by decide), show iop .add .i64 5 3 = 8 by decide, elem_byte (z := b8) _ (by decide) rfl, reqK_pos (by decide), v3, wrap64u a8 c8, shl_b 24 a8 c8 (by decide), o3, show iop .add .i64 3 1 = 4 by decide,
        g40L0_eq, if_pos (by decide), show iop .add .i64 5 4 = 9 by decide, elem_byte (z := b9) _ (by decide) rfl, reqK_pos (by decide), v4, wrap64u a9 c9, shl_b 32 a9 c9 (by decide), o4, show iop .add .i64 4 1 = 5 by decide,
        g40L0_eq, if_neg (by decide), s28]
      simp only [Option.bind_some]
      have hd : decOk [b0, b1, b2, b3, b4, b5, b6, b7, b8, b9] = capOk (decCap [b0, b1, b2, b3, b4, b5, b6, b7, b8, b9]) := by simp [decOk, h15]
      simp only [decRes, hd, decCap]
      cases capOk ⟨b0, b5 + b6 * 256 + b7 * 65536 + b8 * 16777216 + b9 * 4294967296, b1, b2 % 8, b3, b4, decide (8 ≤ b2)⟩ <;> simp
    · rw [if_pos (by simp only [cop_lss_t, cop_lss_f, cop_leq_t, cop_leq_f, cop_gtr_t, cop_gtr_f, cop_geq_t, cop_geq_f, cop_eql_t, cop_eql_f, cop_neq_t, cop_neq_f, Bool.not_eq_true, Bool.not_eq_false, Bool.not_eq_true', Bool.not_eq_false', Bool.and_eq_true, Bool.or_eq_true, decide_eq_true_eq, decide_eq_false_iff_not, Bool.false_eq_true, Bool.true_eq_false, Option.bind_some, Option.some.injEq, false_iff, true_iff, iff_false, iff_true]; omega)]
      have : decOk [b0, b1, b2, b3, b4, b5, b6, b7, b8, b9] = false := by simp [decOk, h15]
      simp [decRes, this]
  · rw [if_pos (by simp only [cop_lss_t, cop_lss_f, cop_leq_t, cop_leq_f, cop_gtr_t, cop_gtr_f, cop_geq_t, cop_geq_f, cop_eql_t, cop_eql_f, cop_neq_t, cop_neq_f, Bool.not_eq_true, Bool.not_eq_false, Bool.not_eq_true', Bool.not_eq_false', Bool.and_eq_true, Bool.or_eq_true, decide_eq_true_eq, decide_eq_false_iff_not, Bool.false_eq_true, Bool.true_eq_false, Option.bind_some, Option.some.injEq, false_iff, true_iff, iff_false, iff_true]; omega)]
    have : decOk L = false := by simp [decOk, h10]
    simp [decRes, this]

theorem s41 {L : List Int} (hb : Bytes L) (hl : L.length ≤ 1000000) : g41 (byteCells L) = some (decRes L) := by
  rw [g41_eq, bytes_len]
  by_cases h10 : L.length = 10
  · rw [if_neg (by simp only [cop_lss_t, cop_lss_f, cop_leq_t, cop_leq_f, cop_gtr_t, cop_gtr_f, cop_geq_t, cop_geq_f, cop_eql_t, cop_eql_f, cop_neq_t, cop_neq_f, Bool.not_eq_true, Bool.not_eq_false, Bool.not_eq_true', Bool.not_eq_false', Bool.and_eq_true, Bool.or_eq_true, decide_eq_true_eq, decide_eq_false_iff_not, Bool.false_eq_true, Bool.true_eq_false, Option.bind_some, Option.some.injEq, false_iff, true_iff, iff_false, iff_true]; omega)]
    obtain ⟨b0, b1, b2, b3, b4, b5, b6, b7, b8, b9, rfl⟩ : ∃ b0 b1 b2 b3 b4 b5 b6 b7 b8 b9, L = [b0, b1, b2, b3, b4, b5, b6, b7, b8, b9] := by
      match L, h10 with
      | [b0, b1, b2, b3, b4, b5, b6, b7, b8, b9], _ => exact ⟨b0, b1, b2, b3, b4, b5, b6, b7, b8, b9, rfl⟩
    obtain ⟨a0, c0⟩ := hb b0 (by simp)
    obtain ⟨a1, c1⟩ := hb b1 (by simp)
    obtain ⟨a2, c2⟩ := hb b2 (by simp)
    obtain ⟨a3, c3⟩ := hb b3 (by simp)
    obtain ⟨a4, c4⟩ := hb b4 (by simp)
    obtain ⟨a5, c5⟩ := hb b5 (by simp)
    obtain ⟨a6, c6⟩ := hb b6 (by simp)
    obtain ⟨a7, c7⟩ := hb b7 (by simp)
    obtain ⟨a8, c8⟩ := hb b8 (by simp)
    obtain ⟨a9, c9⟩ := hb b9 (by simp)
    obtain ⟨f, hf⟩ := fuel6
    have v0 : IntKind.wrap .u64 (iop .mul .i64 8 0) = ((0 : Nat) : Int) := by decide
    have v1 : IntKind.wrap .u64 (iop .mul .i64 8 1) = ((8 : Nat) : Int) := by decide
    have v2 : IntKind.wrap .u64 (iop .mul .i64 8 2) = ((16 : Nat) : Int) := by decide
    have v3 : IntKind.wrap .u64 (iop .mul .i64 8 3) = ((24 : Nat) : Int) := by decide
    have v4 : IntKind.wrap .u64 (iop .mul .i64 8 4) = ((32 : Nat) : Int) := by decide
    have p0 : (2 : Int) ^ 0 = 1 := by decide
    have p1 : (2 : Int) ^ 8 = 256 := by decide
    have p2 : (2 : Int) ^ 16 = 65536 := by decide
    have p3 : (2 : Int) ^ 24 = 16777216 := by decide
    have p4 : (2 : Int) ^ 32 = 4294967296 := by decide
    have o0 : iop .add .i64 0 (b5 * 2 ^ 0) = b5 := by rw [add_i (by omega) (by omega)]; omega
    have o1 : iop .add .i64 b5 (b6 * 2 ^ 8) = b5 + b6 * 256 := by rw [p1, add_i (by omega) (by omega)]
    have o2 : iop .add .i64 (b5 + b6 * 256) (b7 * 2 ^ 16) = b5 + b6 * 256 + b7 * 65536 := by rw [p2, add_i (by omega) (by omega)]
    have o3 : iop .add .i64 (b5 + b6 * 256 + b7 * 65536) (b8 * 2 ^ 24) = b5 + b6 * 256 + b7 * 65536 + b8 * 16777216 := by rw [p3, add_i (by omega) (by omega)]
    have o4 : iop .add .i64 (b5 + b6 * 256 + b7 * 65536 + b8 * 16777216) (b9 * 2 ^ 32) = b5 + b6 * 256 + b7 * 65536 + b8 * 16777216 + b9 * 4294967296 := by rw [p4, add_i (by omega) (by omega)]
    have hrem : iop .rem .i64 b2 8 = b2 % 8 := Int.tmod_eq_emod_of_nonneg a2
    have hge : cop .geq b2 8 = decide (8 ≤ b2) := rfl
    rw [hf, g41L0_eq, if_pos (by decide), show iop .add .i64 5 0 = 5 by decide, elem_byte (z := b5) _ (by decide) rfl, reqK_pos (by decide), v0, wrap64u a5 c5, shl_b 0 a5 c5 (by decide), o0, show iop .add .i64 0 1 = 1 by decide,
      g41L0_eq, if_pos (by decide), show iop .add .i64 5 1 = 6 by decide, elem_byte (z := b6) _ (by decide) rfl, reqK_pos (by decide), v1, wrap64u a6 c6, shl_b 8 a6 c6 (by decide), o1, show iop .add .i64 1 1 = 2 by decide,
      g41L0_eq, if_pos (by decide), show iop .add .i64 5 2 = 7 by decide, elem_byte (z := b7) _ (by decide) rfl, reqK_pos (by decide), v2, wrap64u a7 c7, shl_b 16 a7 c7 (by decide), o2, show iop .add .i64 2 1 = 3 by decide,
      g41L0_eq, if_pos (by decide), show iop .add .i64 5 3 = 8 by decide, elem_byte (z := b8) _ (by decide) rfl, reqK_pos (by decide), v3, wrap64u a8 c8, shl_b 24 a8 c8 (by decide), o3, show iop .add .i64 3 1 = 4 by decide,
      g41L0_eq, if_pos (by decide), show iop .add .i64 5 4 = 9 by decide, elem_byte (z := b9) _ (by decide) rfl, reqK_pos (by decide), v4, wrap64u a9 c9, shl_b 32 a9 c9 (by decide), o4, show iop .add .i64 4 1 = 5 by decide,
      g41L0_eq, if_neg (by decide), elem_byte (z := b0) _ (by decide) rfl, elem_byte (z := b1) _ (by decide) rfl, elem_byte (z := b2) _ (by decide) rfl, reqK_pos (by decide), elem_byte (z := b3) _ (by decide) rfl, elem_byte (z := b4) _ (by decide) rfl, elem_byte (z := b2) _ (by decide) rfl, elem_byte (z := b2) _ (by decide) rfl,
      wrap64u a0 c0, wrap64u a1 c1, wrap64u a2 c2, wrap64u a3 c3, wrap64u a4 c4, hrem, hge, s33]
    simp only [Option.bind_some]
    by_cases h15 : b2 ≤ 15
    · rw [if_neg (by simp only [cop_lss_t, cop_lss_f, cop_leq_t, cop_leq_f, cop_gtr_t, cop_gtr_f, cop_geq_t, cop_geq_f, cop_eql_t, cop_eql_f, cop_neq_t, cop_neq_f, Bool.not_eq_true, Bool.not_eq_false, Bool.not_eq_true', Bool.not_eq_false', Bool.and_eq_true, Bool.or_eq_true, decide_eq_true_eq, decide_eq_false_iff_not, Bool.false_eq_true, Bool.true_eq_false, Option.bind_some, Option.some.injEq, false_iff, true_iff, iff_false, iff_true]; omega)]
      have hd : decOk [b0, b1, b2, b3, b4, b5, b6, b7, b8, b9] = capOk (decCap [b0, b1, b2, b3, b4, b5, b6, b7, b8, b9]) := by simp [decOk, h15]
      simp only [decRes, hd, decCap]
      cases capOk ⟨b0, b5 + b6 * 256 + b7 * 65536 + b8 * 16777216 + b9 * 4294967296, b1, b2 % 8, b3, b4, decide (8 ≤ b2)⟩ <;> simp
    · rw [if_pos (by simp only [cop_lss_t, cop_lss_f, cop_leq_t, cop_leq_f, cop_gtr_t, cop_gtr_f, cop_geq_t, cop_geq_f, cop_eql_t, cop_eql_f, cop_neq_t, cop_neq_f, Bool.not_eq_true, Bool.not_eq_false, Bool.not_eq_true', Bool.not_eq_false', Bool.and_eq_true, Bool.or_eq_true, decide_eq_true_eq, decide_eq_false_iff_not, Bool.false_eq_true, Bool.true_eq_false, Option.bind_some, Option.some.injEq, false_iff, true_iff, iff_false, iff_true]; omega)]
      have : decOk [b0, b1, b2, b3, b4, b5, b6, b7, b8, b9] = false := by simp [decOk, h15]
      simp [decRes, this]
  · rw [if_pos (by simp only [cop_lss_t, cop_lss_f, cop_leq_t, cop_leq_f, cop_gtr_t, cop_gtr_f, cop_geq_t, cop_geq_f, cop_eql_t, cop_eql_f, cop_neq_t, cop_neq_f, Bool.not_eq_true, Bool.not_eq_false, Bool.not_eq_true', Bool.not_eq_false', Bool.and_eq_true, Bool.or_eq_true, decide_eq_true_eq, decide_eq_false_iff_not, Bool.false_eq_true, Bool.true_eq_false, Option.bind_some, Option.some.injEq, false_iff, true_iff, iff_false, iff_true]; omega)]
    have : decOk L = false := by simp [decOk, h10]
    simp [decRes, this]

theorem enc_bytes (c : Cap) : Bytes (encB c) := by
  unfold encB
  split
  · rename_i h
    obtain ⟨h1, h2, h3, h4, h5, h6, h7, h8, h9, h10, h11, h12⟩ := cap_nums h
    intro z hz
    simp only [capCode, List.mem_cons, List.not_mem_nil, or_false] at hz
    rcases hz with rfl | rfl | rfl | rfl | rfl | rfl | rfl | rfl | rfl | rfl
    · omega
    · omega
    · split <;> omega
    all_goals omega
  · intro z hz
    simp at hz

theorem s10 (k b s r w l : Int) (d : Bool) (L : List Int) (hb : Bytes L) : g10 k b s r w l d (byteCells L) = some true := by
  rw [g10_eq, bytes_len]
  refine ite_goal (fun _ => by rw [s23]; rfl) fun hl => ?_
  simp only [cop_lss_t, cop_lss_f, cop_leq_t, cop_leq_f, cop_gtr_t, cop_gtr_f, cop_geq_t, cop_geq_f, cop_eql_t, cop_eql_f, cop_neq_t, cop_neq_f, Bool.not_eq_true, Bool.not_eq_false, Bool.not_eq_true', Bool.not_eq_false', Bool.and_eq_true, Bool.or_eq_true, decide_eq_true_eq, decide_eq_false_iff_not, Bool.false_eq_true, Bool.true_eq_false, Option.bind_some, Option.some.injEq, false_iff, true_iff, iff_false, iff_true] at hl
  rw [s38, s39, s40 hb (by omega), s41 hb (by omega)]
  simp only [Option.bind_some]
  rw [reqK_pos (room1 (by simp) (by rw [bytes_len]; omega)), reqK_pos (bytes_ok (enc_bytes _)), reqK_pos (bytes_ok (enc_bytes _)), if_pos (by simp), if_pos (by simp [cop]), if_pos (by simp [cop]), if_pos (by simp [cop]), s23]
  rfl

theorem dec_enc {c : Cap} (h : capOk c = true) : decCap (encB c) = c ∧ decOk (encB c) = true := by
  obtain ⟨h1, h2, h3, h4, h5, h6, h7, h8, h9, h10, h11, h12⟩ := cap_nums h
  have hc : decCap (encB c) = c := by
    obtain ⟨k, b, s, r, w, l, d⟩ := c
    simp only [encB, h, if_true, capCode, decCap] at *
    cases d
    · simp only [Bool.false_eq_true, if_false]
      congr 1
      · omega
      · omega
      · simp; omega
    · simp only [if_true]
      congr 1
      · omega
      · omega
      · simp; omega
  refine ⟨hc, ?_⟩
  simp only [decOk, hc, h, Bool.and_true, Bool.and_eq_true, decide_eq_true_eq]
  simp only [encB, h, if_true, capCode]
  refine ⟨rfl, ?_⟩
  simp only [List.getD_cons_succ, List.getD_cons_zero]
  split <;> omega

theorem enc_dec {L : List Int} (hb : Bytes L) (h : decOk L = true) : encB (decCap L) = L := by
  simp only [decOk, Bool.and_eq_true, decide_eq_true_eq] at h
  obtain ⟨⟨h10, h15⟩, hc⟩ := h
  obtain ⟨b0, b1, b2, b3, b4, b5, b6, b7, b8, b9, rfl⟩ : ∃ b0 b1 b2 b3 b4 b5 b6 b7 b8 b9, L = [b0, b1, b2, b3, b4, b5, b6, b7, b8, b9] := by
    match L, h10 with
    | [b0, b1, b2, b3, b4, b5, b6, b7, b8, b9], _ => exact ⟨b0, b1, b2, b3, b4, b5, b6, b7, b8, b9, rfl⟩
  obtain ⟨a2, c2⟩ := hb b2 (by simp)
  obtain ⟨a5, c5⟩ := hb b5 (by simp)
  obtain ⟨a6, c6⟩ := hb b6 (by simp)
  obtain ⟨a7, c7⟩ := hb b7 (by simp)
  obtain ⟨a8, c8⟩ := hb b8 (by simp)
  obtain ⟨a9, c9⟩ := hb b9 (by simp)
  simp only [List.getD_cons_succ, List.getD_cons_zero] at h15
  simp only [encB, hc, if_true, capCode]
  simp only [decCap, decide_eq_true_eq, List.cons.injEq, true_and, and_true]
  refine ⟨?_, ?_, ?_, ?_, ?_, ?_⟩
  · split <;> omega
  all_goals omega

theorem s11 (x0 x1 x2 x3 x4 : Int) (L : List Int) (hb : Bytes L) : g11 x0 x1 x2 x3 x4 (byteCells L) = some true := by
  rw [g11_eq, bytes_len]
  refine ite_goal (fun _ => by rw [s23]; rfl) fun hl => ?_
  simp only [cop_lss_t, cop_lss_f, cop_leq_t, cop_leq_f, cop_gtr_t, cop_gtr_f, cop_geq_t, cop_geq_f, cop_eql_t, cop_eql_f, cop_neq_t, cop_neq_f, Bool.not_eq_true, Bool.not_eq_false, Bool.not_eq_true', Bool.not_eq_false', Bool.and_eq_true, Bool.or_eq_true, decide_eq_true_eq, decide_eq_false_iff_not, Bool.false_eq_true, Bool.true_eq_false, Option.bind_some, Option.some.injEq, false_iff, true_iff, iff_false, iff_true] at hl
  obtain ⟨c, hc, h25⟩ := s25 x0 x1 x2 x3 x4
  obtain ⟨e1, e2⟩ := dec_enc hc
  have hlen : (encB c).length = 10 := by simp [encB, hc, capCode]
  have he0 : encE c = 0 := by simp [encE, hc]
  rw [h25]
  simp only [Option.bind_some]
  rw [s38]
  simp only [Option.bind_some]
  have eta : (⟨c.kind, c.base, c.bits, c.rights, c.width, c.level, c.device⟩ : Cap) = c := rfl
  rw [eta, s40 (enc_bytes c) (by omega)]
  simp only [Option.bind_some, decRes, e2, if_true, e1, bytes_len, hlen, he0]
  rw [if_neg (by decide), if_neg (by decide), if_neg (by simp [cop]), if_neg (by decide), s40 hb (by omega)]
  simp only [Option.bind_some]
  by_cases hd : decOk L = true
  · have hcd : capOk (decCap L) = true := by
      simp only [decOk, Bool.and_eq_true] at hd
      exact hd.2
    have he1 : encE (decCap L) = 0 := by simp [encE, hcd]
    have eta2 : (⟨(decCap L).kind, (decCap L).base, (decCap L).bits, (decCap L).rights, (decCap L).width, (decCap L).level, (decCap L).device⟩ : Cap) = decCap L := rfl
    simp only [decRes, hd, if_true]
    rw [if_neg (by decide), s38]
    simp only [Option.bind_some]
    rw [eta2, he1, if_pos (by decide), enc_dec hb hd, reqK_pos (bytes_ok hb), reqK_pos (bytes_ok hb), if_pos (by simp), s28, eta2, hcd, s23]
    rfl
  · simp only [decRes, if_neg hd]
    rw [if_pos (by decide), if_pos (by decide), s23]
    rfl

end Go.Proofs.Ytjfhdhplmibnfaa
end

section
namespace Go.Proofs.Ytjfhdhplmibnfaa
open Go Go.AM
set_option linter.unusedSimpArgs false
set_option linter.unusedVariables false

/-- What binenc.Uvarint reads: the value, and how many bytes. -/
def rd : Nat → List Int → Option (Nat × Nat)
  | _, [] => none
  | n, c :: cs =>
    if n = 9 ∧ 1 < c then none else if 0 < n ∧ c = 0 then none else if c < 128 then some (c.toNat, 1) else
    match rd (n + 1) cs with
    | some (w, k) => some ((c - 128).toNat + 128 * w, k + 1)
    | none => none

theorem and7 {c : Int} (h0 : 0 ≤ c) (h1 : c ≤ 255) : IntKind.wrap .u64 (iop .and .u8 c 127) = c % 128 := by
  have : ∀ c : Fin 256, IntKind.wrap .u64 (iop .and .u8 ((c.val : Nat) : Int) 127) = ((c.val : Nat) : Int) % 128 := by decide +kernel
  have h := this ⟨c.toNat, by omega⟩
  have e : ((c.toNat : Nat) : Int) = c := by omega
  dsimp only at h
  rw [e] at h
  exact h

theorem or_add {acc m n : Nat} (ha : acc < 2 ^ (7 * n)) (hn : 7 * n ≤ 63) (hm : m * 2 ^ (7 * n) + acc < 2 ^ 64) : iop .or .u64 (acc : Int) (iop .shl .u64 (m : Int) ((7 * n : Nat) : Int)) = ((acc + 2 ^ (7 * n) * m : Nat) : Int) := by
  have h64 : (2 : Int) ^ 64 = 18446744073709551616 := by decide
  have h64' : (2 : Nat) ^ 64 = 18446744073709551616 := by decide
  have hmin : min (((7 * n : Nat) : Int)).toNat IntKind.u64.bits = 7 * n := by
    have : IntKind.u64.bits = 64 := rfl
    omega
  have hp : (m : Int) * 2 ^ (7 * n) = ((m * 2 ^ (7 * n) : Nat) : Int) := by
    rw [Int.natCast_mul, Int.natCast_pow]
    rfl
  have hs : iop .shl .u64 (m : Int) ((7 * n : Nat) : Int) = ((m * 2 ^ (7 * n) : Nat) : Int) := by
    show IntKind.wrap .u64 ((m : Int) * 2 ^ (min (((7 * n : Nat) : Int)).toNat IntKind.u64.bits)) = _
    rw [hmin, hp, wrapu_of (by omega) (by omega)]
  rw [hs]
  have ho : (BitVec.ofInt 64 (acc : Int) ||| BitVec.ofInt 64 ((m * 2 ^ (7 * n) : Nat) : Int)).toNat = acc + 2 ^ (7 * n) * m := by
    have e1 : (((acc : Int)) % ((2 ^ 64 : Nat) : Int)).toNat = acc := by rw [h64']; omega
    have e2 : ((((m * 2 ^ (7 * n) : Nat) : Int)) % ((2 ^ 64 : Nat) : Int)).toNat = m * 2 ^ (7 * n) := by rw [h64']; omega
    rw [BitVec.toNat_or, BitVec.toNat_ofInt, BitVec.toNat_ofInt, e1, e2, Nat.or_comm, Nat.mul_comm m, ← Nat.two_pow_add_eq_or_of_lt ha, Nat.add_comm]
  show IntKind.wrap .u64 (((BitVec.ofInt 64 (acc : Int) ||| BitVec.ofInt 64 ((m * 2 ^ (7 * n) : Nat) : Int)).toNat : Nat) : Int) = _
  rw [ho, wrapu_of (by omega) (by rw [Nat.mul_comm] at hm; omega)]

theorem l100 {bs : List Int} (hb : Bytes bs) (hl : bs.length ≤ 1000000) (off : Nat) : ∀ (cs : List Int) (n fuel acc : Nat), bs.drop (off + n) = cs → off + n ≤ bs.length → n ≤ 9 → cs.length < fuel → acc < 2 ^ (7 * n) →
    match rd n cs with
    | some (w, k) => g100L0 fuel (byteCells bs) off acc n = some (((acc + 2 ^ (7 * n) * w : Nat) : Int), ((off + n + k : Nat) : Int), 0)
    | none => ∃ e, e ≠ 0 ∧ g100L0 fuel (byteCells bs) off acc n = some (0, 0, e) := by
  have h64' : (2 : Nat) ^ 64 = 18446744073709551616 := by decide
  intro cs
  induction cs with
  | nil =>
    intro n fuel acc hd ho hn hf ha
    obtain ⟨f, rfl⟩ : ∃ f, fuel = f + 1 := ⟨fuel - 1, by omega⟩
    have hlen : off + n = bs.length := by
      have := List.drop_eq_nil_iff.1 hd
      omega
    have a0 : iop .add .i64 (off : Int) (n : Int) = ((off + n : Nat) : Int) := by rw [add_i (by omega) (by omega)]; omega
    exact ⟨52, by decide, by rw [g100L0_eq, a0, bytes_len, if_pos (by simp only [cop_lss_t, cop_lss_f, cop_leq_t, cop_leq_f, cop_gtr_t, cop_gtr_f, cop_geq_t, cop_geq_f, cop_eql_t, cop_eql_f, cop_neq_t, cop_neq_f, Bool.not_eq_true, Bool.not_eq_false, Bool.not_eq_true', Bool.not_eq_false', Bool.and_eq_true, Bool.or_eq_true, decide_eq_true_eq, decide_eq_false_iff_not, Bool.false_eq_true, Bool.true_eq_false, Option.bind_some, Option.some.injEq, false_iff, true_iff, iff_false, iff_true]; omega)]⟩
  | cons c cs ih =>
    intro n fuel acc hd ho hn hf ha
    obtain ⟨f, rfl⟩ : ∃ f, fuel = f + 1 := ⟨fuel - 1, by omega⟩
    have hlt : off + n < bs.length := by
      rcases Nat.lt_or_ge (off + n) bs.length with h | h
      · exact h
      · rw [List.drop_of_length_le h] at hd; cases hd
    have hc : bs[off + n]? = some c := by
      have := congrArg (fun l => l[0]?) hd
      simpa using this
    have hat : bs[((off + n : Nat) : Int).toNat]? = some c := by rw [Int.toNat_natCast]; exact hc
    have hcs : bs.drop (off + (n + 1)) = cs := by
      have := congrArg (List.drop 1) hd
      rw [List.drop_drop] at this
      simpa [Nat.add_assoc] using this
    obtain ⟨c0, c1⟩ := hb c (List.mem_of_getElem? hc)
    have a0 : iop .add .i64 (off : Int) (n : Int) = ((off + n : Nat) : Int) := by rw [add_i (by omega) (by omega)]; omega
    have a1 : iop .add .i64 (n : Int) 1 = ((n + 1 : Nat) : Int) := by rw [add_i (by omega) (by omega)]; omega
    have a2 : iop .add .i64 (off : Int) ((n + 1 : Nat) : Int) = ((off + n + 1 : Nat) : Int) := by rw [add_i (by omega) (by omega)]; omega
    have a3 : iop .mul .i64 7 (n : Int) = ((7 * n : Nat) : Int) := by rw [mul_i (by omega) (by omega)]; omega
    have e128 : c % 128 = ((c.toNat % 128 : Nat) : Int) := by omega
    rw [g100L0_eq, a0, bytes_len, if_neg (by simp only [cop_lss_t, cop_lss_f, cop_leq_t, cop_leq_f, cop_gtr_t, cop_gtr_f, cop_geq_t, cop_geq_f, cop_eql_t, cop_eql_f, cop_neq_t, cop_neq_f, Bool.not_eq_true, Bool.not_eq_false, Bool.not_eq_true', Bool.not_eq_false', Bool.and_eq_true, Bool.or_eq_true, decide_eq_true_eq, decide_eq_false_iff_not, Bool.false_eq_true, Bool.true_eq_false, Option.bind_some, Option.some.injEq, false_iff, true_iff, iff_false, iff_true]; omega), elem_byte _ (by omega) hat, and7 c0 c1, a1, a2, a3, e128]
    have tail : (¬ (n = 9 ∧ 1 < c)) → (¬ (0 < n ∧ c = 0)) → ∀ (T : Option (Int × Int × Int)), T = (reqK ((0 : Int) ≤ ((7 * n : Nat) : Int)) <|
        if (cop .lss c 128) = true then some ((iop .or .u64 (acc : Int) (iop .shl .u64 ((c.toNat % 128 : Nat) : Int) ((7 * n : Nat) : Int))), ((off + n + 1 : Nat) : Int), 0)
        else g100L0 f (byteCells bs) off (iop .or .u64 (acc : Int) (iop .shl .u64 ((c.toNat % 128 : Nat) : Int) ((7 * n : Nat) : Int))) ((n + 1 : Nat) : Int)) →
        match rd n (c :: cs) with
        | some (w, k) => T = some (((acc + 2 ^ (7 * n) * w : Nat) : Int), ((off + n + k : Nat) : Int), 0)
        | none => ∃ e, e ≠ 0 ∧ T = some (0, 0, e) := by
      intro h1 h2 T hT
      have hbound : c.toNat % 128 * 2 ^ (7 * n) + acc < 2 ^ 64 := by
        by_cases h9 : n = 9
        · subst h9
          have hm : c.toNat % 128 * 2 ^ (7 * 9) ≤ 1 * 2 ^ (7 * 9) := Nat.mul_le_mul_right _ (by omega)
          have hp2 : 1 * 2 ^ (7 * 9) + 2 ^ (7 * 9) = (2 : Nat) ^ 64 := by decide
          have hs := Nat.add_lt_add_of_le_of_lt hm ha
          rw [hp2] at hs
          exact hs
        · have hp : (2 : Nat) ^ (7 * n) ≤ 2 ^ 56 := Nat.pow_le_pow_right (by decide) (by omega)
          have hm : c.toNat % 128 * 2 ^ (7 * n) ≤ 127 * 2 ^ 56 := Nat.mul_le_mul (by omega) hp
          have h56 : (2 : Nat) ^ 56 = 72057594037927936 := by decide
          omega
      rw [reqK_pos (by omega), or_add ha (by omega) hbound] at hT
      by_cases hc128 : c < 128
      · have hrd : rd n (c :: cs) = some (c.toNat, 1) := by rw [rd, if_neg h1, if_neg h2, if_pos hc128]
        rw [hrd]
        dsimp only
        have hmod : c.toNat % 128 = c.toNat := by omega
        rw [if_pos (by simp only [cop_lss_t, cop_lss_f, cop_leq_t, cop_leq_f, cop_gtr_t, cop_gtr_f, cop_geq_t, cop_geq_f, cop_eql_t, cop_eql_f, cop_neq_t, cop_neq_f, Bool.not_eq_true, Bool.not_eq_false, Bool.not_eq_true', Bool.not_eq_false', Bool.and_eq_true, Bool.or_eq_true, decide_eq_true_eq, decide_eq_false_iff_not, Bool.false_eq_true, Bool.true_eq_false, Option.bind_some, Option.some.injEq, false_iff, true_iff, iff_false, iff_true]; exact hc128), hmod] at hT
        exact hT
      · have hn9 : n ≠ 9 := fun h => h1 ⟨h, by omega⟩
        have hmod : (c - 128).toNat = c.toNat % 128 := by omega
        rw [if_neg (by simp only [cop_lss_t, cop_lss_f, cop_leq_t, cop_leq_f, cop_gtr_t, cop_gtr_f, cop_geq_t, cop_geq_f, cop_eql_t, cop_eql_f, cop_neq_t, cop_neq_f, Bool.not_eq_true, Bool.not_eq_false, Bool.not_eq_true', Bool.not_eq_false', Bool.and_eq_true, Bool.or_eq_true, decide_eq_true_eq, decide_eq_false_iff_not, Bool.false_eq_true, Bool.true_eq_false, Option.bind_some, Option.some.injEq, false_iff, true_iff, iff_false, iff_true]; exact hc128)] at hT
        have hpow : (2 : Nat) ^ (7 * (n + 1)) = 2 ^ (7 * n) * 128 := by
          rw [show 7 * (n + 1) = 7 * n + 7 by omega, Nat.pow_add]
        have hacc : acc + 2 ^ (7 * n) * (c.toNat % 128) < 2 ^ (7 * (n + 1)) := by
          rw [hpow]
          have hh : 2 ^ (7 * n) * (c.toNat % 128) ≤ 2 ^ (7 * n) * 127 := Nat.mul_le_mul_left _ (by omega)
          omega
        have := ih (n + 1) f (acc + 2 ^ (7 * n) * (c.toNat % 128)) hcs (by omega) (by omega) (by simp at hf; omega) hacc
        have hrd : rd n (c :: cs) = match rd (n + 1) cs with | some (w, k) => some ((c - 128).toNat + 128 * w, k + 1) | none => none := by rw [rd, if_neg h1, if_neg h2, if_neg hc128]
        rw [hrd]
        cases hr : rd (n + 1) cs with
        | none =>
          rw [hr] at this
          obtain ⟨e, he, hg⟩ := this
          exact ⟨e, he, hT.trans hg⟩
        | some p =>
          obtain ⟨w, k⟩ := p
          rw [hr] at this
          dsimp only at this ⊢
          rw [hT, this, hmod, hpow]
          have e1 : acc + 2 ^ (7 * n) * (c.toNat % 128) + 2 ^ (7 * n) * 128 * w = acc + 2 ^ (7 * n) * (c.toNat % 128 + 128 * w) := by
            rw [Nat.mul_add, Nat.mul_assoc, Nat.add_assoc]
          have e2 : off + (n + 1) + k = off + n + (k + 1) := by omega
          rw [e1, e2]
    by_cases h9 : n = 9
    · rw [if_pos (by simp only [cop_lss_t, cop_lss_f, cop_leq_t, cop_leq_f, cop_gtr_t, cop_gtr_f, cop_geq_t, cop_geq_f, cop_eql_t, cop_eql_f, cop_neq_t, cop_neq_f, Bool.not_eq_true, Bool.not_eq_false, Bool.not_eq_true', Bool.not_eq_false', Bool.and_eq_true, Bool.or_eq_true, decide_eq_true_eq, decide_eq_false_iff_not, Bool.false_eq_true, Bool.true_eq_false, Option.bind_some, Option.some.injEq, false_iff, true_iff, iff_false, iff_true]; omega)]
      by_cases hc1 : 1 < c
      · have hrd : rd n (c :: cs) = none := by rw [rd, if_pos ⟨h9, hc1⟩]
        rw [hrd]
        exact ⟨6, by decide, by rw [if_pos (by simp only [cop_lss_t, cop_lss_f, cop_leq_t, cop_leq_f, cop_gtr_t, cop_gtr_f, cop_geq_t, cop_geq_f, cop_eql_t, cop_eql_f, cop_neq_t, cop_neq_f, Bool.not_eq_true, Bool.not_eq_false, Bool.not_eq_true', Bool.not_eq_false', Bool.and_eq_true, Bool.or_eq_true, decide_eq_true_eq, decide_eq_false_iff_not, Bool.false_eq_true, Bool.true_eq_false, Option.bind_some, Option.some.injEq, false_iff, true_iff, iff_false, iff_true]; exact hc1)]⟩
      · rw [if_neg (by simp only [cop_lss_t, cop_lss_f, cop_leq_t, cop_leq_f, cop_gtr_t, cop_gtr_f, cop_geq_t, cop_geq_f, cop_eql_t, cop_eql_f, cop_neq_t, cop_neq_f, Bool.not_eq_true, Bool.not_eq_false, Bool.not_eq_true', Bool.not_eq_false', Bool.and_eq_true, Bool.or_eq_true, decide_eq_true_eq, decide_eq_false_iff_not, Bool.false_eq_true, Bool.true_eq_false, Option.bind_some, Option.some.injEq, false_iff, true_iff, iff_false, iff_true]; exact hc1), if_pos (by simp only [cop_lss_t, cop_lss_f, cop_leq_t, cop_leq_f, cop_gtr_t, cop_gtr_f, cop_geq_t, cop_geq_f, cop_eql_t, cop_eql_f, cop_neq_t, cop_neq_f, Bool.not_eq_true, Bool.not_eq_false, Bool.not_eq_true', Bool.not_eq_false', Bool.and_eq_true, Bool.or_eq_true, decide_eq_true_eq, decide_eq_false_iff_not, Bool.false_eq_true, Bool.true_eq_false, Option.bind_some, Option.some.injEq, false_iff, true_iff, iff_false, iff_true]; omega)]
        by_cases hz : c = 0
        · have hrd : rd n (c :: cs) = none := by rw [rd, if_neg fun h => hc1 h.2, if_pos ⟨by omega, hz⟩]
          rw [hrd]
          exact ⟨54, by decide, by rw [if_pos (by simp only [cop_lss_t, cop_lss_f, cop_leq_t, cop_leq_f, cop_gtr_t, cop_gtr_f, cop_geq_t, cop_geq_f, cop_eql_t, cop_eql_f, cop_neq_t, cop_neq_f, Bool.not_eq_true, Bool.not_eq_false, Bool.not_eq_true', Bool.not_eq_false', Bool.and_eq_true, Bool.or_eq_true, decide_eq_true_eq, decide_eq_false_iff_not, Bool.false_eq_true, Bool.true_eq_false, Option.bind_some, Option.some.injEq, false_iff, true_iff, iff_false, iff_true]; exact hz)]⟩
        · rw [if_neg (by simp only [cop_lss_t, cop_lss_f, cop_leq_t, cop_leq_f, cop_gtr_t, cop_gtr_f, cop_geq_t, cop_geq_f, cop_eql_t, cop_eql_f, cop_neq_t, cop_neq_f, Bool.not_eq_true, Bool.not_eq_false, Bool.not_eq_true', Bool.not_eq_false', Bool.and_eq_true, Bool.or_eq_true, decide_eq_true_eq, decide_eq_false_iff_not, Bool.false_eq_true, Bool.true_eq_false, Option.bind_some, Option.some.injEq, false_iff, true_iff, iff_false, iff_true]; exact hz)]
          exact tail (fun h => hc1 h.2) (fun h => hz h.2) _ rfl
    · rw [if_neg (by simp only [cop_lss_t, cop_lss_f, cop_leq_t, cop_leq_f, cop_gtr_t, cop_gtr_f, cop_geq_t, cop_geq_f, cop_eql_t, cop_eql_f, cop_neq_t, cop_neq_f, Bool.not_eq_true, Bool.not_eq_false, Bool.not_eq_true', Bool.not_eq_false', Bool.and_eq_true, Bool.or_eq_true, decide_eq_true_eq, decide_eq_false_iff_not, Bool.false_eq_true, Bool.true_eq_false, Option.bind_some, Option.some.injEq, false_iff, true_iff, iff_false, iff_true]; omega)]
      by_cases hn0 : 0 < n
      · rw [if_pos (by simp only [cop_lss_t, cop_lss_f, cop_leq_t, cop_leq_f, cop_gtr_t, cop_gtr_f, cop_geq_t, cop_geq_f, cop_eql_t, cop_eql_f, cop_neq_t, cop_neq_f, Bool.not_eq_true, Bool.not_eq_false, Bool.not_eq_true', Bool.not_eq_false', Bool.and_eq_true, Bool.or_eq_true, decide_eq_true_eq, decide_eq_false_iff_not, Bool.false_eq_true, Bool.true_eq_false, Option.bind_some, Option.some.injEq, false_iff, true_iff, iff_false, iff_true]; omega)]
        by_cases hz : c = 0
        · have hrd : rd n (c :: cs) = none := by rw [rd, if_neg fun h => h9 h.1, if_pos ⟨hn0, hz⟩]
          rw [hrd]
          exact ⟨54, by decide, by rw [if_pos (by simp only [cop_lss_t, cop_lss_f, cop_leq_t, cop_leq_f, cop_gtr_t, cop_gtr_f, cop_geq_t, cop_geq_f, cop_eql_t, cop_eql_f, cop_neq_t, cop_neq_f, Bool.not_eq_true, Bool.not_eq_false, Bool.not_eq_true', Bool.not_eq_false', Bool.and_eq_true, Bool.or_eq_true, decide_eq_true_eq, decide_eq_false_iff_not, Bool.false_eq_true, Bool.true_eq_false, Option.bind_some, Option.some.injEq, false_iff, true_iff, iff_false, iff_true]; exact hz)]⟩
        · rw [if_neg (by simp only [cop_lss_t, cop_lss_f, cop_leq_t, cop_leq_f, cop_gtr_t, cop_gtr_f, cop_geq_t, cop_geq_f, cop_eql_t, cop_eql_f, cop_neq_t, cop_neq_f, Bool.not_eq_true, Bool.not_eq_false, Bool.not_eq_true', Bool.not_eq_false', Bool.and_eq_true, Bool.or_eq_true, decide_eq_true_eq, decide_eq_false_iff_not, Bool.false_eq_true, Bool.true_eq_false, Option.bind_some, Option.some.injEq, false_iff, true_iff, iff_false, iff_true]; exact hz)]
          exact tail (fun h => h9 h.1) (fun h => hz h.2) _ rfl
      · rw [if_neg (by simp only [cop_lss_t, cop_lss_f, cop_leq_t, cop_leq_f, cop_gtr_t, cop_gtr_f, cop_geq_t, cop_geq_f, cop_eql_t, cop_eql_f, cop_neq_t, cop_neq_f, Bool.not_eq_true, Bool.not_eq_false, Bool.not_eq_true', Bool.not_eq_false', Bool.and_eq_true, Bool.or_eq_true, decide_eq_true_eq, decide_eq_false_iff_not, Bool.false_eq_true, Bool.true_eq_false, Option.bind_some, Option.some.injEq, false_iff, true_iff, iff_false, iff_true]; omega)]
        exact tail (fun h => h9 h.1) (fun h => hn0 h.1) _ rfl

/-- binenc.Uvarint -/
theorem s100 {bs : List Int} (hb : Bytes bs) (hl : bs.length ≤ 1000000) (off : Nat) (ho : off ≤ bs.length) :
    match rd 0 (bs.drop off) with
    | some (w, k) => g100 (byteCells bs) off = some ((w : Int), ((off + k : Nat) : Int), 0)
    | none => ∃ e, e ≠ 0 ∧ g100 (byteCells bs) off = some (0, 0, e) := by
  have h := l100 hb hl off (bs.drop off) 0 FUEL 0 rfl (by omega) (by omega) (fuel_lt (by rw [List.length_drop]; omega)) (by decide)
  rw [g100_eq, if_neg (by simp only [cop_lss_t, cop_lss_f, cop_leq_t, cop_leq_f, cop_gtr_t, cop_gtr_f, cop_geq_t, cop_geq_f, cop_eql_t, cop_eql_f, cop_neq_t, cop_neq_f, Bool.not_eq_true, Bool.not_eq_false, Bool.not_eq_true', Bool.not_eq_false', Bool.and_eq_true, Bool.or_eq_true, decide_eq_true_eq, decide_eq_false_iff_not, Bool.false_eq_true, Bool.true_eq_false, Option.bind_some, Option.some.injEq, false_iff, true_iff, iff_false, iff_true]; omega), bytes_len, if_neg (by simp only [cop_lss_t, cop_lss_f, cop_leq_t, cop_leq_f, cop_gtr_t, cop_gtr_f, cop_geq_t, cop_geq_f, cop_eql_t, cop_eql_f, cop_neq_t, cop_neq_f, Bool.not_eq_true, Bool.not_eq_false, Bool.not_eq_true', Bool.not_eq_false', Bool.and_eq_true, Bool.or_eq_true, decide_eq_true_eq, decide_eq_false_iff_not, Bool.false_eq_true, Bool.true_eq_false, Option.bind_some, Option.some.injEq, false_iff, true_iff, iff_false, iff_true]; omega)]
  cases hr : rd 0 (bs.drop off) with
  | none => rw [hr] at h; exact h
  | some p =>
    obtain ⟨w, k⟩ := p
    rw [hr] at h
    dsimp only at h ⊢
    rw [show 0 + 2 ^ (7 * 0) * w = w by simp] at h
    exact h

theorem rd_lt : ∀ (l : List Int) (n w k : Nat), Bytes l → n ≤ 9 → rd n l = some (w, k) → w < 2 ^ (64 - 7 * n) ∧ (0 < n → 0 < w) ∧ k ≤ l.length ∧ 0 < k
  | [], n, w, k, _, _, h => by simp [rd] at h
  | c :: cs, n, w, k, hb, hn, h => by
    obtain ⟨c0, c1⟩ := hb c (by simp)
    rw [rd] at h
    split at h
    · cases h
    · rename_i h1
      split at h
      · cases h
      · rename_i h2
        split at h
        · rename_i h3
          simp only [Option.some.injEq, Prod.mk.injEq] at h
          obtain ⟨rfl, rfl⟩ := h
          refine ⟨?_, fun h => by omega, by simp, by decide⟩
          by_cases h9 : n = 9
          · subst h9
            show c.toNat < 2
            omega
          · have : (2 : Nat) ^ 7 ≤ 2 ^ (64 - 7 * n) := Nat.pow_le_pow_right (by decide) (by omega)
            have h7 : (2 : Nat) ^ 7 = 128 := by decide
            omega
        · rename_i h3
          have hn9 : n ≠ 9 := fun he => h1 ⟨he, by omega⟩
          cases hr : rd (n + 1) cs with
          | none => rw [hr] at h; cases h
          | some p =>
            obtain ⟨w', k'⟩ := p
            rw [hr] at h
            simp only [Option.some.injEq, Prod.mk.injEq] at h
            obtain ⟨rfl, rfl⟩ := h
            obtain ⟨g1, g2, g3, g4⟩ := rd_lt cs (n + 1) w' k' (fun z hz => hb z (by simp [hz])) (by omega) hr
            have hp : (2 : Nat) ^ (64 - 7 * n) = 2 ^ (64 - 7 * (n + 1)) * 128 := by
              rw [show 64 - 7 * n = 64 - 7 * (n + 1) + 7 by omega, Nat.pow_add]
            rw [hp]
            have := g2 (by omega)
            exact ⟨by omega, fun _ => by omega, by simp; omega, by omega⟩

/-- What is read is encoded as it was. -/
theorem rd_uv : ∀ (l : List Int) (n w k : Nat), Bytes l → n ≤ 9 → rd n l = some (w, k) → l.take k = uv w
  | [], n, w, k, _, _, h => by simp [rd] at h
  | c :: cs, n, w, k, hb, hn, h => by
    obtain ⟨c0, c1⟩ := hb c (by simp)
    have hlt := (rd_lt (c :: cs) n w k hb hn h).1
    have hw : w < 2 ^ 64 := Nat.lt_of_lt_of_le hlt (Nat.pow_le_pow_right (by decide) (by omega))
    rw [rd] at h
    split at h
    · cases h
    · rename_i h1
      split at h
      · cases h
      · split at h
        · rename_i h3
          simp only [Option.some.injEq, Prod.mk.injEq] at h
          obtain ⟨rfl, rfl⟩ := h
          rw [uv_step hw, if_pos (by omega)]
          simp
          omega
        · rename_i h3
          have hn9 : n ≠ 9 := fun he => h1 ⟨he, by omega⟩
          cases hr : rd (n + 1) cs with
          | none => rw [hr] at h; cases h
          | some p =>
            obtain ⟨w', k'⟩ := p
            rw [hr] at h
            simp only [Option.some.injEq, Prod.mk.injEq] at h
            obtain ⟨rfl, rfl⟩ := h
            have hbs : Bytes cs := fun z hz => hb z (by simp [hz])
            obtain ⟨g1, g2, g3, g4⟩ := rd_lt cs (n + 1) w' k' hbs (by omega) hr
            have := g2 (by omega)
            have ih := rd_uv cs (n + 1) w' k' hbs (by omega) hr
            have ed : ((c - 128).toNat + 128 * w') / 128 = w' := by omega
            have em : ((((c - 128).toNat + 128 * w') % 128 + 128 : Nat) : Int) = c := by omega
            rw [List.take_succ_cons, ih, uv_step hw, if_neg (by omega), ed, em]

/-- What is encoded is read. -/
theorem uv_rd : ∀ (m v n : Nat) (r : List Int), v < 128 ^ m → v < 2 ^ 64 → n + m ≤ 9 → (0 < n → 0 < v) → rd n (uv v ++ r) = some (v, uvN v)
  | 0, v, n, r, h, hv, hn, h0 => by
    have hz : v = 0 := by simpa using h
    subst hz
    have : ¬ 0 < n := fun hh => absurd (h0 hh) (by decide)
    have : n = 0 := by omega
    subst this
    rfl
  | m + 1, v, n, r, h, hv, hn, h0 => by
    rw [uv_step hv, uvN_step hv]
    by_cases hs : v < 128
    · rw [if_pos hs, if_pos hs, List.cons_append, rd, if_neg (by omega), if_neg (by omega), if_pos (by omega)]
      simp
    · have hd : v / 128 < 128 ^ m := by
        rw [Nat.pow_succ] at h
        exact Nat.div_lt_of_lt_mul (by omega)
      rw [if_neg hs, if_neg hs, List.cons_append, rd, if_neg (by omega), if_neg (by omega), if_neg (by omega), uv_rd m (v / 128) (n + 1) r hd (by omega) (by omega) (fun _ => by omega)]
      simp only [Option.some.injEq, Prod.mk.injEq, and_true]
      omega

end Go.Proofs.Ytjfhdhplmibnfaa
end

section
namespace Go.Proofs.Ytjfhdhplmibnfaa
open Go Go.AM
set_option linter.unusedSimpArgs false
set_option linter.unusedVariables false

/-- node.reader's integer: the value and where it stands then. -/
def rdo (lim : Nat) (bs : List Int) (off : Nat) : Option (Nat × Nat) :=
  match rd 0 (bs.drop off) with
  | some (w, k) => if w ≤ lim then some (w, off + k) else none
  | none => none

theorem rdo_le {lim : Nat} {bs : List Int} (hb : Bytes bs) {off w o : Nat} (ho : off ≤ bs.length) (h : rdo lim bs off = some (w, o)) : w ≤ lim ∧ off < o ∧ o ≤ bs.length ∧ (bs.drop off).take (o - off) = uv w := by
  unfold rdo at h
  split at h
  · rename_i w' k hr
    split at h
    · rename_i hle
      simp only [Option.some.injEq, Prod.mk.injEq] at h
      obtain ⟨rfl, rfl⟩ := h
      have hbd : Bytes (bs.drop off) := fun z hz => hb z (List.mem_of_mem_drop hz)
      obtain ⟨g1, g2, g3, g4⟩ := rd_lt _ 0 _ _ hbd (by omega) hr
      rw [List.length_drop] at g3
      refine ⟨hle, by omega, by omega, ?_⟩
      rw [show off + k - off = k by omega]
      exact rd_uv _ 0 _ _ hbd (by omega) hr
    · cases h
  · cases h

theorem s89f (x0 : List (List AV)) (x1 x3 : Int) : g89 x0 x1 true x3 = some (0, x0, x1, true) := by
  rw [g89_eq, if_pos rfl]

theorem s89 {bs : List Int} (hb : Bytes bs) (hl : bs.length ≤ 1000000) (off : Nat) (ho : off ≤ bs.length) (lim : Nat) (hlim : lim < 2 ^ 62) :
    g89 (byteCells bs) off false lim = some (match rdo lim bs off with | some (w, o) => ((w : Int), byteCells bs, (o : Int), false) | none => (0, byteCells bs, (off : Int), true)) := by
  have h62 : (2 : Nat) ^ 62 = 4611686018427387904 := by decide
  have h64 : (2 : Int) ^ 64 = 18446744073709551616 := by decide
  have h63 : (2 : Int) ^ 63 = 9223372036854775808 := by decide
  have hu : IntKind.wrap .u64 (lim : Int) = (lim : Int) := wrapu_of (by omega) (by omega)
  have h := s100 hb hl off ho
  rw [g89_eq, if_neg (by simp), hu]
  unfold rdo
  cases hr : rd 0 (bs.drop off) with
  | none =>
    rw [hr] at h
    obtain ⟨e, he, hg⟩ := h
    rw [hg, Option.bind_some, if_pos (by simp only [cop_lss_t, cop_lss_f, cop_leq_t, cop_leq_f, cop_gtr_t, cop_gtr_f, cop_geq_t, cop_geq_f, cop_eql_t, cop_eql_f, cop_neq_t, cop_neq_f, Bool.not_eq_true, Bool.not_eq_false, Bool.not_eq_true', Bool.not_eq_false', Bool.and_eq_true, Bool.or_eq_true, decide_eq_true_eq, decide_eq_false_iff_not, Bool.false_eq_true, Bool.true_eq_false, Option.bind_some, Option.some.injEq, false_iff, true_iff, iff_false, iff_true]; exact he)]
  | some p =>
    obtain ⟨w, k⟩ := p
    rw [hr] at h
    dsimp only at h ⊢
    rw [h, Option.bind_some, if_neg (by simp [cop])]
    dsimp only
    by_cases hw : w ≤ lim
    · rw [if_neg (by simp only [cop_lss_t, cop_lss_f, cop_leq_t, cop_leq_f, cop_gtr_t, cop_gtr_f, cop_geq_t, cop_geq_f, cop_eql_t, cop_eql_f, cop_neq_t, cop_neq_f, Bool.not_eq_true, Bool.not_eq_false, Bool.not_eq_true', Bool.not_eq_false', Bool.and_eq_true, Bool.or_eq_true, decide_eq_true_eq, decide_eq_false_iff_not, Bool.false_eq_true, Bool.true_eq_false, Option.bind_some, Option.some.injEq, false_iff, true_iff, iff_false, iff_true]; omega), if_pos hw, wrap_of (by omega) (by omega)]
    · rw [if_pos (by simp only [cop_lss_t, cop_lss_f, cop_leq_t, cop_leq_f, cop_gtr_t, cop_gtr_f, cop_geq_t, cop_geq_f, cop_eql_t, cop_eql_f, cop_neq_t, cop_neq_f, Bool.not_eq_true, Bool.not_eq_false, Bool.not_eq_true', Bool.not_eq_false', Bool.and_eq_true, Bool.or_eq_true, decide_eq_true_eq, decide_eq_false_iff_not, Bool.false_eq_true, Bool.true_eq_false, Option.bind_some, Option.some.injEq, false_iff, true_iff, iff_false, iff_true]; omega), if_neg hw]

/-- node.reader's id -/
def rid (bs : List Int) (off : Nat) : Option (Id × Nat) :=
  match rdo 32 bs off with
  | none => none
  | some (a, o) =>
    match rdo 1073741824 bs o with
    | none => none
    | some (b, o) =>
      match rdo 8 bs o with
      | none => none
      | some (c, o) => some (⟨a, b, c⟩, o)

theorem s88f (x0 : List (List AV)) (x1 : Int) : g88 x0 x1 true = some (0, 0, 0, x0, x1, true) := by
  rw [g88_eq, s89f, Option.bind_some, s89f, Option.bind_some, s89f, Option.bind_some]

theorem s88 {bs : List Int} (hb : Bytes bs) (hl : bs.length ≤ 1000000) (off : Nat) (ho : off ≤ bs.length) :
    match rid bs off with
    | some (i, o) => g88 (byteCells bs) off false = some (i.core, i.op, i.part, byteCells bs, (o : Int), false)
    | none => ∃ a b c o, g88 (byteCells bs) off false = some (a, b, c, byteCells bs, o, true) := by
  have q1 := s89 hb hl off ho 32 (by decide)
  rw [g88_eq]
  have e1 : (((32 : Nat) : Nat) : Int) = 32 := rfl
  have e2 : (((1073741824 : Nat) : Nat) : Int) = 1073741824 := rfl
  have e3 : (((8 : Nat) : Nat) : Int) = 8 := rfl
  rw [e1] at q1
  rw [q1, Option.bind_some]
  unfold rid
  cases h1 : rdo 32 bs off with
  | none =>
    dsimp only
    rw [s89f, Option.bind_some, s89f, Option.bind_some]
    exact ⟨_, _, _, _, rfl⟩
  | some p =>
    obtain ⟨a, o1⟩ := p
    obtain ⟨b1, b2, b3, b4⟩ := rdo_le hb ho h1
    dsimp only
    have q2 := s89 hb hl o1 b3 1073741824 (by decide)
    rw [e2] at q2
    rw [q2, Option.bind_some]
    cases h2 : rdo 1073741824 bs o1 with
    | none =>
      dsimp only
      rw [s89f, Option.bind_some]
      exact ⟨_, _, _, _, rfl⟩
    | some p =>
      obtain ⟨b, o2⟩ := p
      obtain ⟨c1, c2, c3, c4⟩ := rdo_le hb b3 h2
      dsimp only
      have q3 := s89 hb hl o2 c3 8 (by decide)
      rw [e3] at q3
      rw [q3, Option.bind_some]
      cases h3 : rdo 8 bs o2 with
      | none => exact ⟨_, _, _, _, rfl⟩
      | some p => rfl

theorem take_part {l : List Int} {a b c : Nat} (h1 : a ≤ b) (h2 : b ≤ c) : (l.drop a).take (c - a) = (l.drop a).take (b - a) ++ (l.drop b).take (c - b) := by
  have e : c - a = (b - a) + (c - b) := by omega
  rw [e, List.take_add, List.drop_drop, show a + (b - a) = b by omega]

theorem rid_le {bs : List Int} (hb : Bytes bs) {off o : Nat} {i : Id} (ho : off ≤ bs.length) (h : rid bs off = some (i, o)) : off < o ∧ o ≤ bs.length ∧ (bs.drop off).take (o - off) = idB i := by
  unfold rid at h
  split at h
  · cases h
  · rename_i a o1 h1
    obtain ⟨a1, a2, a3, a4⟩ := rdo_le hb ho h1
    split at h
    · cases h
    · rename_i b o2 h2
      obtain ⟨b1, b2, b3, b4⟩ := rdo_le hb a3 h2
      split at h
      · cases h
      · rename_i c o3 h3
        obtain ⟨c1, c2, c3, c4⟩ := rdo_le hb b3 h3
        simp only [Option.some.injEq, Prod.mk.injEq] at h
        obtain ⟨rfl, rfl⟩ := h
        refine ⟨by omega, c3, ?_⟩
        rw [take_part (b := o2) (by omega) (by omega), take_part (b := o1) (by omega) (by omega), a4, b4, c4]
        rfl

end Go.Proofs.Ytjfhdhplmibnfaa
end

section
namespace Go.Proofs.Ytjfhdhplmibnfaa
open Go Go.AM
set_option linter.unusedSimpArgs false
set_option linter.unusedVariables false

def rids (bs : List Int) : Nat → Nat → Option (List Id × Nat)
  | 0, off => some ([], off)
  | c + 1, off =>
    match rid bs off with
    | none => none
    | some (i, o) =>
      match rids bs c o with
      | none => none
      | some (l, o) => some (i :: l, o)

abbrev NodeT := Int × Int × Int × List (List AV) × Int × Int × Int × Int × Int × Int × Bool × Int

def nodeOut (r : Option Node) : NodeT :=
  match r with
  | some n => (n.id.core, n.id.op, n.id.part, idCells n.path, n.cap.kind, n.cap.base, n.cap.bits, n.cap.rights, n.cap.width, n.cap.level, n.cap.device, 0)
  | none => (0, 0, 0, [], 0, 0, 0, 0, 0, 0, false, 14)

def finN (bs : List Int) (i : Id) (p : List Id) (o : Nat) : Option Node :=
  if decOk (bs.drop o) = true ∧ nodeOk ⟨i, p, decCap (bs.drop o)⟩ = true then some ⟨i, p, decCap (bs.drop o)⟩ else none

/-- node.Decode -/
def decN (bs : List Int) : Option Node :=
  match rid bs 0 with
  | none => none
  | some (i, o) =>
    match rdo 8 bs o with
    | none => none
    | some (c, o) =>
      match rids bs c o with
      | none => none
      | some (p, o) => finN bs i p o

theorem l65f (y : List (List AV)) (i : Id) (x0 : List (List AV)) (c : Nat) (hc : c ≤ 8) : ∀ (j k fuel : Nat) (acc : List (List AV)) (off : Int), c = k + j → j < fuel → acc.length ≤ k →
    g65L0 fuel x0 0 0 0 [] 0 0 0 0 0 0 false i.core i.op i.part acc 0 0 0 0 0 0 false (c : Int) (k : Int) y off true = some (nodeOut none) := by
  intro j
  induction j with
  | zero =>
    intro k fuel acc off h hf ha
    obtain ⟨f, rfl⟩ : ∃ f, fuel = f + 1 := ⟨fuel - 1, by omega⟩
    rw [g65L0_eq, if_neg (by simp only [cop_lss_t, cop_lss_f, cop_leq_t, cop_leq_f, cop_gtr_t, cop_gtr_f, cop_geq_t, cop_geq_f, cop_eql_t, cop_eql_f, cop_neq_t, cop_neq_f, Bool.not_eq_true, Bool.not_eq_false, Bool.not_eq_true', Bool.not_eq_false', Bool.and_eq_true, Bool.or_eq_true, decide_eq_true_eq, decide_eq_false_iff_not, Bool.false_eq_true, Bool.true_eq_false, Option.bind_some, Option.some.injEq, false_iff, true_iff, iff_false, iff_true]; omega), if_pos rfl]
    rfl
  | succ j ih =>
    intro k fuel acc off h hf ha
    obtain ⟨f, rfl⟩ : ∃ f, fuel = f + 1 := ⟨fuel - 1, by omega⟩
    have a4 : iop .add .i64 (k : Int) 1 = ((k + 1 : Nat) : Int) := by rw [add_i (by omega) (by omega)]; omega
    rw [g65L0_eq, if_pos (by simp only [cop_lss_t, cop_lss_f, cop_leq_t, cop_leq_f, cop_gtr_t, cop_gtr_f, cop_geq_t, cop_geq_f, cop_eql_t, cop_eql_f, cop_neq_t, cop_neq_f, Bool.not_eq_true, Bool.not_eq_false, Bool.not_eq_true', Bool.not_eq_false', Bool.and_eq_true, Bool.or_eq_true, decide_eq_true_eq, decide_eq_false_iff_not, Bool.false_eq_true, Bool.true_eq_false, Option.bind_some, Option.some.injEq, false_iff, true_iff, iff_false, iff_true]; omega), s88f, Option.bind_some, reqK_pos (room_ok (by simp; omega)), a4]
    exact ih (k + 1) f _ _ (by omega) (by omega) (by simp; omega)

theorem fin65 {bs : List Int} (hb : Bytes bs) (hl : bs.length ≤ 1000000) (i : Id) (p : List Id) (hp : p.length ≤ 8) (o : Nat) (ho : o ≤ bs.length) (f : Nat) (c : Nat) (y : List (List AV)) :
    g65L0 (f + 1) (byteCells bs) 0 0 0 [] 0 0 0 0 0 0 false i.core i.op i.part (idCells p) 0 0 0 0 0 0 false (c : Int) (c : Int) y (o : Int) false = some (nodeOut (finN bs i p o)) := by
  have hbd : Bytes (bs.drop o) := fun z hz => hb z (List.mem_of_mem_drop hz)
  have hdrop : List.drop (Int.toNat (o : Int)) (byteCells bs) = byteCells (bs.drop o) := by simp [byteCells, List.map_drop]
  rw [g65L0_eq, if_neg (by simp [cop]), if_neg (by simp), reqK_pos (by omega), reqK_pos (by rw [bytes_len]; omega), hdrop, s40 hbd (by rw [List.length_drop]; omega), Option.bind_some]
  unfold decRes finN
  cases hd : decOk (bs.drop o) with
  | false =>
    rw [if_neg Bool.false_ne_true]
    dsimp only
    rw [if_pos (by decide), if_neg (by simp)]
    rfl
  | true =>
    rw [if_pos rfl]
    dsimp only
    have q := s49 ⟨i, p, decCap (bs.drop o)⟩ (by show p.length < _; omega)
    dsimp only at q
    rw [if_neg (by simp [cop]), q, Option.bind_some]
    cases hn : nodeOk ⟨i, p, decCap (bs.drop o)⟩ with
    | false =>
      rw [if_pos (by simp), if_neg (by simp)]
      rfl
    | true =>
      rw [if_neg (by simp), if_pos ⟨rfl, rfl⟩]
      rfl

theorem l65 {bs : List Int} (hb : Bytes bs) (hl : bs.length ≤ 1000000) (i : Id) (c : Nat) (hc : c ≤ 8) : ∀ (j k fuel : Nat) (acc : List Id) (off : Nat), c = k + j → j < fuel → acc.length = k → off ≤ bs.length →
    g65L0 fuel (byteCells bs) 0 0 0 [] 0 0 0 0 0 0 false i.core i.op i.part (idCells acc) 0 0 0 0 0 0 false (c : Int) (k : Int) (byteCells bs) (off : Int) false =
      some (nodeOut (match rids bs j off with | none => none | some (l, o) => finN bs i (acc ++ l) o)) := by
  intro j
  induction j with
  | zero =>
    intro k fuel acc off h hf ha ho
    obtain ⟨f, rfl⟩ : ∃ f, fuel = f + 1 := ⟨fuel - 1, by omega⟩
    have hck : c = k := by omega
    subst hck
    rw [fin65 hb hl i acc (by omega) off ho f c]
    simp only [rids, List.append_nil]
  | succ j ih =>
    intro k fuel acc off h hf ha ho
    obtain ⟨f, rfl⟩ : ∃ f, fuel = f + 1 := ⟨fuel - 1, by omega⟩
    have a4 : iop .add .i64 (k : Int) 1 = ((k + 1 : Nat) : Int) := by rw [add_i (by omega) (by omega)]; omega
    have h88 := s88 hb hl off ho
    rw [g65L0_eq, if_pos (by simp only [cop_lss_t, cop_lss_f, cop_leq_t, cop_leq_f, cop_gtr_t, cop_gtr_f, cop_geq_t, cop_geq_f, cop_eql_t, cop_eql_f, cop_neq_t, cop_neq_f, Bool.not_eq_true, Bool.not_eq_false, Bool.not_eq_true', Bool.not_eq_false', Bool.and_eq_true, Bool.or_eq_true, decide_eq_true_eq, decide_eq_false_iff_not, Bool.false_eq_true, Bool.true_eq_false, Option.bind_some, Option.some.injEq, false_iff, true_iff, iff_false, iff_true]; omega)]
    cases hr : rid bs off with
    | none =>
      rw [hr] at h88
      obtain ⟨a, b, d, o, hg⟩ := h88
      rw [hg, Option.bind_some, reqK_pos (room_ok (by rw [ids_len]; simp; omega)), a4]
      have := l65f (byteCells bs) i (byteCells bs) c hc j (k + 1) f (idCells acc ++ (([] : List (List AV)) ++ [[AV.val (.int .i64 a), AV.val (.int .i64 b), AV.val (.int .i64 d)]])) o (by omega) (by omega) (by rw [List.length_append, ids_len]; simp; omega)
      simp only [rids, hr]
      exact this
    | some p =>
      obtain ⟨x, o⟩ := p
      rw [hr] at h88
      dsimp only at h88
      obtain ⟨r1, r2, r3⟩ := rid_le hb ho hr
      have hsn := ids_snoc acc x
      rw [h88, Option.bind_some, reqK_pos (room_ok (by rw [ids_len]; simp; omega)), a4]
      dsimp only
      rw [hsn, ih (k + 1) f _ o (by omega) (by omega) (by simp; omega) r2]
      simp only [rids, hr]
      cases rids bs j o with
      | none => rfl
      | some q => simp [List.append_assoc]

theorem s65 {bs : List Int} (hb : Bytes bs) (hl : bs.length ≤ 1000000) : g65 (byteCells bs) = some (nodeOut (decN bs)) := by
  have h88 := s88 hb hl 0 (Nat.zero_le _)
  rw [g65_eq]
  unfold decN
  have e0 : ((0 : Nat) : Int) = 0 := rfl
  rw [e0] at h88
  cases hr : rid bs 0 with
  | none =>
    rw [hr] at h88
    obtain ⟨a, b, d, o, hg⟩ := h88
    rw [hg, Option.bind_some]
    dsimp only
    rw [s89f, Option.bind_some]
    dsimp only
    exact l65f (byteCells bs) ⟨a, b, d⟩ (byteCells bs) 0 (by omega) 0 0 FUEL [] o rfl (fuel_lt (by decide)) (Nat.le_refl _)
  | some p =>
    obtain ⟨i, o⟩ := p
    rw [hr] at h88
    dsimp only at h88 ⊢
    obtain ⟨r1, r2, r3⟩ := rid_le hb (Nat.zero_le _) hr
    have q := s89 hb hl o r2 8 (by decide)
    have e8 : ((8 : Nat) : Int) = 8 := rfl
    rw [e8] at q
    rw [h88, Option.bind_some]
    dsimp only
    rw [q, Option.bind_some]
    cases hc : rdo 8 bs o with
    | none => exact l65f (byteCells bs) i (byteCells bs) 0 (by omega) 0 0 FUEL [] o rfl (fuel_lt (by decide)) (Nat.le_refl _)
    | some p =>
      obtain ⟨c, o2⟩ := p
      obtain ⟨c1, c2, c3, c4⟩ := rdo_le hb r2 hc
      dsimp only
      have := l65 hb hl i c c1 c 0 FUEL [] o2 (by omega) (fuel_lt (by omega)) rfl c3
      exact this

end Go.Proofs.Ytjfhdhplmibnfaa
end

section
namespace Go.Proofs.Ytjfhdhplmibnfaa
open Go Go.AM
set_option linter.unusedSimpArgs false
set_option linter.unusedVariables false

theorem rdo_uv {lim v : Nat} (a r : List Int) (hv : v ≤ lim) (h2 : v < 2 ^ 62) : rdo lim (a ++ (uv v ++ r)) a.length = some (v, a.length + uvN v) := by
  have h62 : (2 : Nat) ^ 62 = 4611686018427387904 := by decide
  have h64 : (2 : Nat) ^ 64 = 18446744073709551616 := by decide
  have h9 : (128 : Nat) ^ 9 = 9223372036854775808 := by decide
  unfold rdo
  rw [List.drop_left, uv_rd 9 v 0 r (by omega) (by omega) (by omega) (fun h => absurd h (by decide))]
  simp only [hv, if_true]

theorem rid_id {i : Id} (hi : idOk i = true) (a r : List Int) : rid (a ++ (idB i ++ r)) a.length = some (i, a.length + (idB i).length) := by
  obtain ⟨h1, h2, h3, h4, h5, h6⟩ := idOk_of hi
  have h62 : (2 : Nat) ^ 62 = 4611686018427387904 := by decide
  have q1 := rdo_uv (lim := 32) (v := i.core.toNat) a (uv i.op.toNat ++ (uv i.part.toNat ++ r)) (by omega) (by omega)
  have q2 := rdo_uv (lim := 1073741824) (v := i.op.toNat) (a ++ uv i.core.toNat) (uv i.part.toNat ++ r) (by omega) (by omega)
  have q3 := rdo_uv (lim := 8) (v := i.part.toNat) (a ++ uv i.core.toNat ++ uv i.op.toNat) r (by omega) (by omega)
  simp only [List.append_assoc, List.length_append, uv_len] at q1 q2 q3
  unfold rid
  simp only [idB, List.append_assoc, List.length_append, uv_len, q1, q2, Nat.add_assoc] at q3 ⊢
  rw [q3]
  simp only [Option.some.injEq, Prod.mk.injEq, and_true]
  have e1 : ((i.core.toNat : Nat) : Int) = i.core := by omega
  have e2 : ((i.op.toNat : Nat) : Int) = i.op := by omega
  have e3 : ((i.part.toNat : Nat) : Int) = i.part := by omega
  rw [e1, e2, e3]

theorem rids_ids : ∀ (l : List Id) (a r : List Int), (∀ x ∈ l, idOk x = true) → rids (a ++ ((l.map idB).flatten ++ r)) l.length a.length = some (l, a.length + ((l.map idB).flatten).length)
  | [], a, r, _ => by simp [rids]
  | x :: l, a, r, h => by
    have q := rid_id (h x (by simp)) a ((l.map idB).flatten ++ r)
    have q2 := rids_ids l (a ++ idB x) r fun y hy => h y (by simp [hy])
    simp only [List.append_assoc, List.length_append] at q q2
    simp only [List.length_cons, List.map_cons, List.flatten_cons, List.append_assoc, rids, q, q2, List.length_append, Nat.add_assoc]

def preN (n : Node) : List Int := idB n.id ++ uv n.path.length ++ (n.path.map idB).flatten

theorem dec_pre {n : Node} (hn : nodeOk n = true) (r : List Int) : decN (preN n ++ r) = finN (preN n ++ r) n.id n.path (preN n).length := by
  obtain ⟨h1, h2, h3, h4⟩ := node_of hn
  have h62 : (2 : Nat) ^ 62 = 4611686018427387904 := by decide
  have q1 := rid_id h1 [] (uv n.path.length ++ ((n.path.map idB).flatten ++ r))
  have q2 := rdo_uv (lim := 8) (v := n.path.length) (idB n.id) ((n.path.map idB).flatten ++ r) h3 (by omega)
  have q3 := rids_ids n.path (idB n.id ++ uv n.path.length) r fun x hx => path_ok hn x hx
  simp only [List.nil_append, List.length_nil, Nat.zero_add] at q1
  simp only [List.append_assoc, List.length_append, uv_len] at q3
  unfold decN preN
  simp only [List.append_assoc, q1, q2, q3, List.length_append, uv_len, Nat.add_assoc]

theorem dec_bad {n : Node} (hn : nodeOk n = true) (r : List Int) (hr : r.length ≠ 10) : decN (preN n ++ r) = none := by
  rw [dec_pre hn]
  unfold finN
  rw [List.drop_left, if_neg]
  intro h
  have := h.1
  simp only [decOk, Bool.and_eq_true, decide_eq_true_eq] at this
  exact hr this.1.1

theorem capB {c : Cap} (h : capOk c = true) : encB c = capCode c := by unfold encB; rw [if_pos h]

theorem dec_good {n : Node} (hn : nodeOk n = true) : decN (nodeCode n) = some n := by
  obtain ⟨h1, h2, h3, h4⟩ := node_of hn
  obtain ⟨d1, d2⟩ := dec_enc h2
  rw [capB h2] at d1 d2
  have := dec_pre hn (capCode n.cap)
  have e : nodeCode n = preN n ++ capCode n.cap := by simp [nodeCode, preN]
  rw [e, this]
  unfold finN
  rw [List.drop_left, d1, if_pos ⟨d2, hn⟩]

theorem rids_le {bs : List Int} (hb : Bytes bs) : ∀ (c off o : Nat) (l : List Id), off ≤ bs.length → rids bs c off = some (l, o) → l.length = c ∧ off ≤ o ∧ o ≤ bs.length ∧ (bs.drop off).take (o - off) = (l.map idB).flatten
  | 0, off, o, l, ho, h => by
    simp only [rids, Option.some.injEq, Prod.mk.injEq] at h
    obtain ⟨rfl, rfl⟩ := h
    exact ⟨rfl, Nat.le_refl _, ho, by simp⟩
  | c + 1, off, o, l, ho, h => by
    simp only [rids] at h
    split at h
    · cases h
    · rename_i i o1 h1
      obtain ⟨a1, a2, a3⟩ := rid_le hb ho h1
      split at h
      · cases h
      · rename_i l' o2 h2
        simp only [Option.some.injEq, Prod.mk.injEq] at h
        obtain ⟨rfl, rfl⟩ := h
        obtain ⟨b1, b2, b3, b4⟩ := rids_le hb c o1 o2 l' a2 h2
        refine ⟨by simp [b1], by omega, b3, ?_⟩
        rw [take_part (b := o1) (by omega) b2, a3, b4]
        rfl

theorem dec_code {bs : List Int} (hb : Bytes bs) {n : Node} (h : decN bs = some n) : nodeOk n = true ∧ nodeCode n = bs := by
  unfold decN at h
  split at h
  · cases h
  · rename_i i o1 h1
    obtain ⟨a1, a2, a3⟩ := rid_le hb (Nat.zero_le _) h1
    split at h
    · cases h
    · rename_i c o2 h2
      obtain ⟨b1, b2, b3, b4⟩ := rdo_le hb a2 h2
      split at h
      · cases h
      · rename_i p o3 h3
        obtain ⟨c1, c2, c3, c4⟩ := rids_le hb c o2 o3 p b3 h3
        unfold finN at h
        split at h
        · rename_i hh
          simp only [Option.some.injEq] at h
          subst h
          have hbd : Bytes (bs.drop o3) := fun z hz => hb z (List.mem_of_mem_drop hz)
          have hcap := (node_of hh.2).2.1
          have he := enc_dec hbd hh.1
          rw [capB hcap] at he
          refine ⟨hh.2, ?_⟩
          unfold nodeCode
          dsimp only
          rw [he, c1, ← a3, ← b4, ← c4]
          have e : (bs.drop 0).take (o3 - 0) = (bs.drop 0).take (o1 - 0) ++ (bs.drop o1).take (o2 - o1) ++ (bs.drop o2).take (o3 - o2) := by
            rw [take_part (b := o2) (by omega) c2, take_part (b := o1) (by omega) (by omega)]
          rw [← e, List.drop_zero, Nat.sub_zero, List.take_append_drop]
        · cases h

theorem code_bytes (n : Node) (hn : nodeOk n = true) : Bytes (nodeCode n) := by
  have hid : ∀ i, Bytes (idB i) := fun i => bytes_both (bytes_both (uv_bytes _) (uv_bytes _)) (uv_bytes _)
  have hc : Bytes (capCode n.cap) := by
    have := enc_bytes n.cap
    rwa [capB (node_of hn).2.1] at this
  refine bytes_both (bytes_both (bytes_both (hid _) (uv_bytes _)) ?_) hc
  intro z hz
  obtain ⟨l, hl, hz⟩ := List.mem_flatten.1 hz
  obtain ⟨i, _, rfl⟩ := List.mem_map.1 hl
  exact hid i z hz

theorem code_len (n : Node) (hn : nodeOk n = true) : (nodeCode n).length ≤ 1000 := by
  have h8 := (node_of hn).2.2.1
  have key : ∀ l : List Id, ((l.map idB).flatten).length ≤ 33 * l.length := by
    intro l
    induction l with
    | nil => simp
    | cons x l ih =>
      have := idB_le x
      simp only [List.map_cons, List.flatten_cons, List.length_append, List.length_cons]
      omega
  have h1 := idB_le n.id
  have h2 := uvN_le n.path.length
  have h3 := key n.path
  have h4 : (capCode n.cap).length = 10 := rfl
  simp only [nodeCode, List.length_append, uv_len]
  omega

theorem s19 (a b c : Int) (p : List Int) (x4 x5 x6 : Int) (L : List Int) (hb : Bytes L) : g19 a b c (intCells p) x4 x5 x6 (byteCells L) = some true := by
  rw [g19_eq, bytes_len, ints_len, s42, Option.bind_some]
  refine ite_goal (fun _ => rfl) fun hL => ?_
  refine ite_goal (fun _ => rfl) fun hP => ?_
  have hL' : L.length ≤ 400 := by simp only [cop_lss_t, cop_lss_f, cop_leq_t, cop_leq_f, cop_gtr_t, cop_gtr_f, cop_geq_t, cop_geq_f, cop_eql_t, cop_eql_f, cop_neq_t, cop_neq_f, Bool.not_eq_true, Bool.not_eq_false, Bool.not_eq_true', Bool.not_eq_false', Bool.and_eq_true, Bool.or_eq_true, decide_eq_true_eq, decide_eq_false_iff_not, Bool.false_eq_true, Bool.true_eq_false, Option.bind_some, Option.some.injEq, false_iff, true_iff, iff_false, iff_true] at hL; omega
  have hP' : p.length ≤ 40 := by simp only [cop_lss_t, cop_lss_f, cop_leq_t, cop_leq_f, cop_gtr_t, cop_gtr_f, cop_geq_t, cop_geq_f, cop_eql_t, cop_eql_f, cop_neq_t, cop_neq_f, Bool.not_eq_true, Bool.not_eq_false, Bool.not_eq_true', Bool.not_eq_false', Bool.and_eq_true, Bool.or_eq_true, decide_eq_true_eq, decide_eq_false_iff_not, Bool.false_eq_true, Bool.true_eq_false, Option.bind_some, Option.some.injEq, false_iff, true_iff, iff_false, iff_true] at hP; omega
  obtain ⟨cp, hcp, h25⟩ := s25 x4 x5 x6 a b
  obtain ⟨n, hn, h2, h47⟩ := s47 a b c p (by omega) cp hcp
  obtain ⟨g1, g2, g3, g4⟩ := node_of hn
  have hB : nodeB n = nodeCode n := if_pos hn
  have hE : nodeE n = 0 := if_pos hn
  have hlen := code_len n hn
  have hbc := code_bytes n hn
  have ecode : nodeCode n = preN n ++ capCode n.cap := by simp [nodeCode, preN]
  have hcl : (capCode n.cap).length = 10 := rfl
  have hplen : (nodeCode n).length = (preN n).length + 10 := by rw [ecode, List.length_append, hcl]
  have q63 := s63 n (by omega)
  rw [hB, hE] at q63
  have q65 := s65 hbc (by omega)
  rw [dec_good hn] at q65
  have e1 : iop .sub .i64 ((nodeCode n).length : Int) 1 = (((nodeCode n).length - 1 : Nat) : Int) := by rw [sub_i (by omega) (by omega)]; omega
  have etake : (byteCells (nodeCode n)).take ((nodeCode n).length - 1) = byteCells (preN n ++ (capCode n.cap).take 9) := by
    rw [hplen, ecode]
    simp only [byteCells, ← List.map_take]
    congr 1
    rw [show (preN n).length + 10 - 1 = (preN n).length + 9 by omega, List.take_length_add_append]
  have esnoc : byteCells (nodeCode n) ++ (([] : List (List AV)) ++ [[AV.val (.int .u8 0)]]) = byteCells (preN n ++ (capCode n.cap ++ [0])) := by
    rw [ecode]
    simp [byteCells, u8c]
  have hbpre : Bytes (preN n) := fun z hz => hbc z (by rw [ecode]; exact List.mem_append.2 (.inl hz))
  have hbcap : Bytes (capCode n.cap) := fun z hz => hbc z (by rw [ecode]; exact List.mem_append.2 (.inr hz))
  have qt := s65 (bs := preN n ++ (capCode n.cap).take 9) (bytes_both hbpre fun z hz => hbcap z (List.mem_of_mem_take hz)) (by rw [List.length_append, List.length_take]; omega)
  rw [dec_bad hn _ (by rw [List.length_take]; omega)] at qt
  have qs := s65 (bs := preN n ++ (capCode n.cap ++ [0])) (bytes_both hbpre (bytes_both hbcap (by simp [Bytes]))) (by simp only [List.length_append, hcl, List.length_singleton]; omega)
  rw [dec_bad hn _ (by simp only [List.length_append, hcl, List.length_singleton]; omega)] at qs
  rw [h25, Option.bind_some]
  dsimp only
  rw [h47, Option.bind_some]
  dsimp only
  rw [q63, Option.bind_some]
  dsimp only
  rw [q65, Option.bind_some]
  dsimp only [nodeOut]
  refine ite_goal (fun h => absurd h (by decide)) fun _ => ?_
  refine ite_goal (fun h => absurd h (by decide)) fun _ => ?_
  rw [s46 _ _ _ _ (by omega), Option.bind_some]
  refine ite_goal (fun h => absurd h (by decide)) fun _ => ?_
  rw [bytes_len]
  refine ite_goal (fun h => absurd h (by simp only [cop_lss_t, cop_lss_f, cop_leq_t, cop_leq_f, cop_gtr_t, cop_gtr_f, cop_geq_t, cop_geq_f, cop_eql_t, cop_eql_f, cop_neq_t, cop_neq_f, Bool.not_eq_true, Bool.not_eq_false, Bool.not_eq_true', Bool.not_eq_false', Bool.and_eq_true, Bool.or_eq_true, decide_eq_true_eq, decide_eq_false_iff_not, Bool.false_eq_true, Bool.true_eq_false, Option.bind_some, Option.some.injEq, false_iff, true_iff, iff_false, iff_true]; omega)) fun _ => ?_
  rw [e1, reqK_pos (by omega), reqK_pos (by omega), Int.toNat_natCast, etake, qt, Option.bind_some,
    reqK_pos (room1 (by simp) (by rw [bytes_len]; omega)), reqK_pos (room1 (by rw [bytes_len]; omega) (by simp)), esnoc, qs, Option.bind_some]
  dsimp only [nodeOut]
  refine ite_goal (fun h => absurd h (by decide)) fun _ => ?_
  refine ite_goal (fun h => absurd h (by decide)) fun _ => ?_
  rw [s65 hb (by omega), Option.bind_some]
  cases hd : decN L with
  | none =>
    dsimp only [nodeOut]
    exact ite_goal (fun _ => rfl) fun h => absurd (by decide) h
  | some m =>
    obtain ⟨m1, m2⟩ := dec_code hb hd
    have r63 := s63 m (by have := (node_of m1).2.2.1; omega)
    rw [show nodeB m = nodeCode m from if_pos m1, show nodeE m = 0 from if_pos m1, m2] at r63
    dsimp only [nodeOut]
    refine ite_goal (fun h => absurd h (by decide)) fun _ => ?_
    rw [r63, Option.bind_some]
    dsimp only
    refine ite_goal (fun _ => ?_) fun h => absurd (by decide) h
    rw [reqK_pos (bytes_ok hb), reqK_pos (bytes_ok hb)]
    exact ite_goal (fun _ => rfl) fun h => absurd (by simp) h

end Go.Proofs.Ytjfhdhplmibnfaa
end

section
namespace Go.Proofs.Ytjfhdhplmibnfaa
open Go Go.AM
set_option linter.unusedSimpArgs false
set_option linter.unusedVariables false

theorem bytes_drop (bs : List Int) (n : Nat) : (byteCells bs).drop n = byteCells (bs.drop n) := by simp [byteCells, List.map_drop]

/-- Whatever stands there, the reference's reader answers; where it is not bad it has eaten a byte. -/
theorem l91t : ∀ (j i fuel : Nat) (bs : List Int) (b : Bool) (acc : Int), 5 = i + j → j < fuel → Bytes bs →
    ∃ v bs' bad, g91L0 fuel (byteCells bs) b acc i = some (v, byteCells bs', bad) ∧ Bytes bs' ∧ bs'.length ≤ bs.length ∧ (bad = false → b = false ∧ bs'.length < bs.length) := by
  intro j
  induction j with
  | zero =>
    intro i fuel bs b acc h hf hb
    obtain ⟨f, rfl⟩ : ∃ f, fuel = f + 1 := ⟨fuel - 1, by omega⟩
    exact ⟨0, bs, true, by rw [g91L0_eq, if_neg (by simp only [cop_lss_t, cop_lss_f, cop_leq_t, cop_leq_f, cop_gtr_t, cop_gtr_f, cop_geq_t, cop_geq_f, cop_eql_t, cop_eql_f, cop_neq_t, cop_neq_f, Bool.not_eq_true, Bool.not_eq_false, Bool.not_eq_true', Bool.not_eq_false', Bool.and_eq_true, Bool.or_eq_true, decide_eq_true_eq, decide_eq_false_iff_not, Bool.false_eq_true, Bool.true_eq_false, Option.bind_some, Option.some.injEq, false_iff, true_iff, iff_false, iff_true]; omega)], hb, Nat.le_refl _, fun h => by cases h⟩
  | succ j ih =>
    intro i fuel bs b acc h hf hb
    obtain ⟨f, rfl⟩ : ∃ f, fuel = f + 1 := ⟨fuel - 1, by omega⟩
    rw [g91L0_eq, if_pos (by simp only [cop_lss_t, cop_lss_f, cop_leq_t, cop_leq_f, cop_gtr_t, cop_gtr_f, cop_geq_t, cop_geq_f, cop_eql_t, cop_eql_f, cop_neq_t, cop_neq_f, Bool.not_eq_true, Bool.not_eq_false, Bool.not_eq_true', Bool.not_eq_false', Bool.and_eq_true, Bool.or_eq_true, decide_eq_true_eq, decide_eq_false_iff_not, Bool.false_eq_true, Bool.true_eq_false, Option.bind_some, Option.some.injEq, false_iff, true_iff, iff_false, iff_true]; omega), bytes_len]
    cases b with
    | true => exact ⟨0, bs, true, by rw [if_pos rfl], hb, Nat.le_refl _, fun h => by cases h⟩
    | false =>
      rw [if_neg (by simp)]
      cases bs with
      | nil => exact ⟨0, [], true, by rw [if_pos (by decide)], hb, Nat.le_refl _, fun h => by cases h⟩
      | cons c cs =>
        have hcs : Bytes cs := fun z hz => hb z (by simp [hz])
        have a1 : iop .add .i64 (i : Int) 1 = ((i + 1 : Nat) : Int) := by rw [add_i (by omega) (by omega)]; omega
        have a3 : IntKind.wrap .u64 (iop .mul .i64 7 (i : Int)) = ((7 * i : Nat) : Int) := by
          rw [mul_i (by omega) (by omega), wrapu_of (by omega) (by omega)]; omega
        have hd : List.drop (Int.toNat 1) (byteCells (c :: cs)) = byteCells cs := rfl
        rw [if_neg (by simp only [cop_lss_t, cop_lss_f, cop_leq_t, cop_leq_f, cop_gtr_t, cop_gtr_f, cop_geq_t, cop_geq_f, cop_eql_t, cop_eql_f, cop_neq_t, cop_neq_f, Bool.not_eq_true, Bool.not_eq_false, Bool.not_eq_true', Bool.not_eq_false', Bool.and_eq_true, Bool.or_eq_true, decide_eq_true_eq, decide_eq_false_iff_not, Bool.false_eq_true, Bool.true_eq_false, Option.bind_some, Option.some.injEq, false_iff, true_iff, iff_false, iff_true, List.length_cons]; omega), elem_byte (z := c) _ (by decide) rfl, reqK_pos (by decide), reqK_pos (by simp only [List.length_cons]; omega), reqK_pos (by decide), a3, reqK_pos (by omega), hd, a1]
        by_cases hc : cop .lss (IntKind.wrap .i64 c) 128 = true
        · exact ⟨_, cs, false, by rw [if_pos hc], hcs, by simp, fun _ => ⟨rfl, by simp⟩⟩
        · obtain ⟨v, bs', bad, h1, h2, h3, h4⟩ := ih (i + 1) f cs false (iop .add .i64 acc (iop .shl .i64 (iop .rem .i64 (IntKind.wrap .i64 c) 128) ((7 * i : Nat) : Int))) (by omega) (by omega) hcs
          exact ⟨v, bs', bad, by rw [if_neg hc]; exact h1, h2, by simp; omega, fun hh => ⟨rfl, by have := (h4 hh).2; simp; omega⟩⟩

theorem s91t {bs : List Int} (hb : Bytes bs) (b : Bool) : ∃ v bs' bad, g91 (byteCells bs) b = some (v, byteCells bs', bad) ∧ Bytes bs' ∧ bs'.length ≤ bs.length ∧ (bad = false → b = false ∧ bs'.length < bs.length) := by
  rw [g91_eq]
  exact l91t 5 0 FUEL bs b 0 rfl (fuel_lt (by decide)) hb

theorem s90t {bs : List Int} (hb : Bytes bs) (b : Bool) : ∃ x y z bs' bad, g90 (byteCells bs) b = some (x, y, z, byteCells bs', bad) ∧ Bytes bs' ∧ bs'.length ≤ bs.length ∧ (bad = false → b = false ∧ bs'.length < bs.length) := by
  obtain ⟨x, b1, d1, h1, h2, h3, h4⟩ := s91t hb b
  obtain ⟨y, b2, d2, k1, k2, k3, k4⟩ := s91t h2 d1
  obtain ⟨z, b3, d3, m1, m2, m3, m4⟩ := s91t k2 d2
  refine ⟨x, y, z, b3, d3, ?_, m2, by omega, fun hh => ?_⟩
  · rw [g90_eq, h1, Option.bind_some]
    dsimp only
    rw [k1, Option.bind_some]
    dsimp only
    rw [m1, Option.bind_some]
  · have q := k4 (m4 hh).1
    exact ⟨(h4 q.1).1, by omega⟩

theorem rem128 {c : Int} (h : 0 ≤ c) : iop .rem .i64 c 128 = c % 128 := Int.tmod_eq_emod_of_nonneg h

theorem pow7 {i : Nat} (h : i ≤ 4) : (2 : Nat) ^ (7 * i) ≤ 268435456 := by
  have : (2 : Nat) ^ (7 * i) ≤ 2 ^ 28 := Nat.pow_le_pow_right (by decide) (by omega)
  have e : (2 : Nat) ^ 28 = 268435456 := by decide
  omega

theorem shl7 {c i : Nat} (hc : c < 128) (h : i ≤ 4) : iop .shl .i64 (c : Int) ((7 * i : Nat) : Int) = ((c * 2 ^ (7 * i) : Nat) : Int) := by
  have hp := pow7 h
  have hm : c * 2 ^ (7 * i) ≤ 127 * 268435456 := Nat.mul_le_mul (by omega) hp
  have hmin : min (((7 * i : Nat) : Int)).toNat IntKind.i64.bits = 7 * i := by
    have : IntKind.i64.bits = 64 := rfl
    omega
  have e : (c : Int) * 2 ^ (7 * i) = ((c * 2 ^ (7 * i) : Nat) : Int) := by
    rw [Int.natCast_mul, Int.natCast_pow]
    rfl
  show IntKind.wrap .i64 ((c : Int) * 2 ^ (min (((7 * i : Nat) : Int)).toNat IntKind.i64.bits)) = _
  rw [hmin, e, wrap_of (by omega) (by omega)]

theorem l91s (v i fuel acc : Nat) (r : List Int) (hs : v < 128) (him : i ≤ 4) (hf : 1 ≤ fuel) (ha : acc ≤ 68719476736 * i) :
    g91L0 fuel (byteCells (uv v ++ r)) false (acc : Int) (i : Int) = some (((acc + v * 2 ^ (7 * i) : Nat) : Int), byteCells r, false) := by
  have h64 : (2 : Nat) ^ 64 = 18446744073709551616 := by decide
  obtain ⟨f, rfl⟩ : ∃ f, fuel = f + 1 := ⟨fuel - 1, by omega⟩
  have a3 : IntKind.wrap .u64 (iop .mul .i64 7 (i : Int)) = ((7 * i : Nat) : Int) := by rw [mul_i (by omega) (by omega), wrapu_of (by omega) (by omega)]; omega
  have hd : List.drop (Int.toNat 1) (byteCells ((v : Int) :: r)) = byteCells r := rfl
  have hw : IntKind.wrap .i64 (v : Int) = (v : Int) := wrap_of (by omega) (by omega)
  have hm : (v : Int) % 128 = ((v : Nat) : Int) := by omega
  have hp := pow7 (i := i) (by omega)
  have hmul : v * 2 ^ (7 * i) ≤ 127 * 268435456 := Nat.mul_le_mul (by omega) hp
  have hadd : iop .add .i64 (acc : Int) ((v * 2 ^ (7 * i) : Nat) : Int) = ((acc + v * 2 ^ (7 * i) : Nat) : Int) := by rw [add_i (by omega) (by omega)]; omega
  rw [uv_step (by omega), if_pos hs, List.cons_append, List.nil_append, g91L0_eq, if_pos (by simp only [cop_lss_t, cop_lss_f, cop_leq_t, cop_leq_f, cop_gtr_t, cop_gtr_f, cop_geq_t, cop_geq_f, cop_eql_t, cop_eql_f, cop_neq_t, cop_neq_f, Bool.not_eq_true, Bool.not_eq_false, Bool.not_eq_true', Bool.not_eq_false', Bool.and_eq_true, Bool.or_eq_true, decide_eq_true_eq, decide_eq_false_iff_not, Bool.false_eq_true, Bool.true_eq_false, Option.bind_some, Option.some.injEq, false_iff, true_iff, iff_false, iff_true]; omega), if_neg (by simp), bytes_len, if_neg (by simp only [cop_lss_t, cop_lss_f, cop_leq_t, cop_leq_f, cop_gtr_t, cop_gtr_f, cop_geq_t, cop_geq_f, cop_eql_t, cop_eql_f, cop_neq_t, cop_neq_f, Bool.not_eq_true, Bool.not_eq_false, Bool.not_eq_true', Bool.not_eq_false', Bool.and_eq_true, Bool.or_eq_true, decide_eq_true_eq, decide_eq_false_iff_not, Bool.false_eq_true, Bool.true_eq_false, Option.bind_some, Option.some.injEq, false_iff, true_iff, iff_false, iff_true, List.length_cons]; omega), elem_byte (z := (v : Int)) _ (by decide) rfl,
    reqK_pos (by decide), reqK_pos (by simp only [List.length_cons]; omega), reqK_pos (by decide), a3, reqK_pos (by omega), hd, hw, rem128 (by omega), hm, shl7 hs (by omega), hadd, if_pos (by simp only [cop_lss_t, cop_lss_f, cop_leq_t, cop_leq_f, cop_gtr_t, cop_gtr_f, cop_geq_t, cop_geq_f, cop_eql_t, cop_eql_f, cop_neq_t, cop_neq_f, Bool.not_eq_true, Bool.not_eq_false, Bool.not_eq_true', Bool.not_eq_false', Bool.and_eq_true, Bool.or_eq_true, decide_eq_true_eq, decide_eq_false_iff_not, Bool.false_eq_true, Bool.true_eq_false, Option.bind_some, Option.some.injEq, false_iff, true_iff, iff_false, iff_true]; omega)]

/-- What is encoded is read: i groups are read, v is what is left. -/
theorem l91e : ∀ (m v i fuel acc : Nat) (r : List Int), v < 128 ^ (m + 1) → v < 2 ^ 40 → i + m ≤ 4 → m + 1 < fuel → acc ≤ 68719476736 * i →
    g91L0 fuel (byteCells (uv v ++ r)) false (acc : Int) (i : Int) = some (((acc + v * 2 ^ (7 * i) : Nat) : Int), byteCells r, false) := by
  have h40 : (2 : Nat) ^ 40 = 1099511627776 := by decide
  have h64 : (2 : Nat) ^ 64 = 18446744073709551616 := by decide
  intro m
  induction m with
  | zero =>
    intro v i fuel acc r hv hv2 him hf ha
    exact l91s v i fuel acc r (by simpa using hv) (by omega) (by omega) ha
  | succ m ih =>
    intro v i fuel acc r hv hv2 him hf ha
    by_cases hs : v < 128
    · exact l91s v i fuel acc r hs (by omega) (by omega) ha
    · obtain ⟨f, rfl⟩ : ∃ f, fuel = f + 1 := ⟨fuel - 1, by omega⟩
      have hdv : v / 128 < 128 ^ (m + 1) := by
        rw [Nat.pow_succ] at hv
        exact Nat.div_lt_of_lt_mul (by omega)
      have a1 : iop .add .i64 (i : Int) 1 = ((i + 1 : Nat) : Int) := by rw [add_i (by omega) (by omega)]; omega
      have a3 : IntKind.wrap .u64 (iop .mul .i64 7 (i : Int)) = ((7 * i : Nat) : Int) := by rw [mul_i (by omega) (by omega), wrapu_of (by omega) (by omega)]; omega
      have hd : List.drop (Int.toNat 1) (byteCells (((v % 128 + 128 : Nat) : Int) :: (uv (v / 128) ++ r))) = byteCells (uv (v / 128) ++ r) := rfl
      have hw : IntKind.wrap .i64 ((v % 128 + 128 : Nat) : Int) = ((v % 128 + 128 : Nat) : Int) := wrap_of (by omega) (by omega)
      have hm : ((v % 128 + 128 : Nat) : Int) % 128 = ((v % 128 : Nat) : Int) := by omega
      have hp := pow7 (i := i) (by omega)
      have hmul : v % 128 * 2 ^ (7 * i) ≤ 127 * 268435456 := Nat.mul_le_mul (by omega) hp
      have hadd : iop .add .i64 (acc : Int) ((v % 128 * 2 ^ (7 * i) : Nat) : Int) = ((acc + v % 128 * 2 ^ (7 * i) : Nat) : Int) := by rw [add_i (by omega) (by omega)]; omega
      have hpow : (2 : Nat) ^ (7 * (i + 1)) = 128 * 2 ^ (7 * i) := by
        rw [show 7 * (i + 1) = 7 * i + 7 by omega, Nat.pow_add, Nat.mul_comm]
      have hval : acc + v % 128 * 2 ^ (7 * i) + v / 128 * 2 ^ (7 * (i + 1)) = acc + v * 2 ^ (7 * i) := by
        rw [hpow, ← Nat.mul_assoc, Nat.add_assoc, ← Nat.add_mul]
        congr 2
        omega
      rw [uv_step (by omega), if_neg hs, List.cons_append, g91L0_eq, if_pos (by simp only [cop_lss_t, cop_lss_f, cop_leq_t, cop_leq_f, cop_gtr_t, cop_gtr_f, cop_geq_t, cop_geq_f, cop_eql_t, cop_eql_f, cop_neq_t, cop_neq_f, Bool.not_eq_true, Bool.not_eq_false, Bool.not_eq_true', Bool.not_eq_false', Bool.and_eq_true, Bool.or_eq_true, decide_eq_true_eq, decide_eq_false_iff_not, Bool.false_eq_true, Bool.true_eq_false, Option.bind_some, Option.some.injEq, false_iff, true_iff, iff_false, iff_true]; omega), if_neg (by simp), bytes_len, if_neg (by simp only [cop_lss_t, cop_lss_f, cop_leq_t, cop_leq_f, cop_gtr_t, cop_gtr_f, cop_geq_t, cop_geq_f, cop_eql_t, cop_eql_f, cop_neq_t, cop_neq_f, Bool.not_eq_true, Bool.not_eq_false, Bool.not_eq_true', Bool.not_eq_false', Bool.and_eq_true, Bool.or_eq_true, decide_eq_true_eq, decide_eq_false_iff_not, Bool.false_eq_true, Bool.true_eq_false, Option.bind_some, Option.some.injEq, false_iff, true_iff, iff_false, iff_true, List.length_cons]; omega), elem_byte (z := ((v % 128 + 128 : Nat) : Int)) _ (by decide) rfl,
        reqK_pos (by decide), reqK_pos (by simp only [List.length_cons]; omega), reqK_pos (by decide), a3, reqK_pos (by omega), hd, hw, rem128 (by omega), hm, shl7 (by omega) (by omega), hadd, a1, if_neg (by simp only [cop_lss_t, cop_lss_f, cop_leq_t, cop_leq_f, cop_gtr_t, cop_gtr_f, cop_geq_t, cop_geq_f, cop_eql_t, cop_eql_f, cop_neq_t, cop_neq_f, Bool.not_eq_true, Bool.not_eq_false, Bool.not_eq_true', Bool.not_eq_false', Bool.and_eq_true, Bool.or_eq_true, decide_eq_true_eq, decide_eq_false_iff_not, Bool.false_eq_true, Bool.true_eq_false, Option.bind_some, Option.some.injEq, false_iff, true_iff, iff_false, iff_true]; omega),
        ih (v / 128) (i + 1) f _ r hdv (by omega) (by omega) (by omega) (by omega), hval]

theorem s91e (v : Nat) (hv : v < 2 ^ 35) (r : List Int) : g91 (byteCells (uv v ++ r)) false = some ((v : Int), byteCells r, false) := by
  have h35 : (2 : Nat) ^ 35 = 34359738368 := by decide
  have h40 : (2 : Nat) ^ 40 = 1099511627776 := by decide
  have h5 : (128 : Nat) ^ 5 = 34359738368 := by decide
  have h := l91e 4 v 0 FUEL 0 r (by omega) (by omega) (by omega) (fuel_lt (by decide)) (by omega)
  rw [show 0 + v * 2 ^ (7 * 0) = v by simp] at h
  rw [g91_eq]
  exact h

theorem s90e {i : Id} (hi : idOk i = true) (r : List Int) : g90 (byteCells (idB i ++ r)) false = some (i.core, i.op, i.part, byteCells r, false) := by
  obtain ⟨h1, h2, h3, h4, h5, h6⟩ := idOk_of hi
  have h35 : (2 : Nat) ^ 35 = 34359738368 := by decide
  have q1 := s91e i.core.toNat (by omega) (uv i.op.toNat ++ (uv i.part.toNat ++ r))
  have q2 := s91e i.op.toNat (by omega) (uv i.part.toNat ++ r)
  have q3 := s91e i.part.toNat (by omega) r
  have e1 : ((i.core.toNat : Nat) : Int) = i.core := by omega
  have e2 : ((i.op.toNat : Nat) : Int) = i.op := by omega
  have e3 : ((i.part.toNat : Nat) : Int) = i.part := by omega
  rw [e1] at q1
  rw [e2] at q2
  rw [e3] at q3
  rw [g90_eq]
  simp only [idB, List.append_assoc, q1, q2, q3, Option.bind_some]

end Go.Proofs.Ytjfhdhplmibnfaa
end

section
namespace Go.Proofs.Ytjfhdhplmibnfaa
open Go Go.AM
set_option linter.unusedSimpArgs false
set_option linter.unusedVariables false

theorem s92 (bs : List Int) (bad : Bool) : g92 (byteCells bs) bad 10 = some (if bad = true ∨ bs.length < 10 then (([] : List (List AV)), byteCells bs, true) else (byteCells (bs.take 10), byteCells (bs.drop 10), false)) := by
  rw [g92_eq, bytes_len]
  cases bad with
  | true => rw [if_pos rfl, if_pos (.inl rfl)]
  | false =>
    rw [if_neg (by simp), if_neg (by decide)]
    by_cases h : bs.length < 10
    · rw [if_pos (by simp only [cop_lss_t, cop_lss_f, cop_leq_t, cop_leq_f, cop_gtr_t, cop_gtr_f, cop_geq_t, cop_geq_f, cop_eql_t, cop_eql_f, cop_neq_t, cop_neq_f, Bool.not_eq_true, Bool.not_eq_false, Bool.not_eq_true', Bool.not_eq_false', Bool.and_eq_true, Bool.or_eq_true, decide_eq_true_eq, decide_eq_false_iff_not, Bool.false_eq_true, Bool.true_eq_false, Option.bind_some, Option.some.injEq, false_iff, true_iff, iff_false, iff_true]; omega), if_pos (.inr h)]
    · rw [if_neg (by simp only [cop_lss_t, cop_lss_f, cop_leq_t, cop_leq_f, cop_gtr_t, cop_gtr_f, cop_geq_t, cop_geq_f, cop_eql_t, cop_eql_f, cop_neq_t, cop_neq_f, Bool.not_eq_true, Bool.not_eq_false, Bool.not_eq_true', Bool.not_eq_false', Bool.and_eq_true, Bool.or_eq_true, decide_eq_true_eq, decide_eq_false_iff_not, Bool.false_eq_true, Bool.true_eq_false, Option.bind_some, Option.some.injEq, false_iff, true_iff, iff_false, iff_true]; omega), if_neg (by simp [h]), reqK_pos (by decide), reqK_pos (by omega), reqK_pos (by decide), reqK_pos (by omega)]
      have e : Int.toNat 10 = 10 := rfl
      rw [e, bytes_drop]
      simp [byteCells, List.map_take]

theorem bytes_inj' : ∀ (a b : List Int), Bytes a → Bytes b → ((byteCells a).map fun e => (toByte e).getD 0) = ((byteCells b).map fun e => (toByte e).getD 0) → a = b
  | [], [], _, _, _ => rfl
  | [], _ :: _, _, _, h => by simp [byteCells] at h
  | _ :: _, [], _, _, h => by simp [byteCells] at h
  | x :: a, y :: b, ha, hb, h => by
    have e1 : UInt8.ofNat x.toNat = UInt8.ofNat y.toNat ∧ ((byteCells a).map fun e => (toByte e).getD 0) = ((byteCells b).map fun e => (toByte e).getD 0) := by
      simpa [byteCells, u8c, toByte] using h
    obtain ⟨x0, x1⟩ := ha x (by simp)
    obtain ⟨y0, y1⟩ := hb y (by simp)
    have e2 := congrArg UInt8.toNat e1.1
    simp only [UInt8.toNat_ofNat'] at e2
    have e3 : x = y := by omega
    rw [e3, bytes_inj' a b (fun z hz => ha z (by simp [hz])) (fun z hz => hb z (by simp [hz])) e1.2]

theorem s93 {a b : List Int} (ha : Bytes a) (hb : Bytes b) : g93 (byteCells a) (byteCells b) = some (decide (a = b)) := by
  rw [g93_eq, reqK_pos (bytes_ok ha), reqK_pos (bytes_ok hb)]
  refine congrArg some ?_
  rw [bool_iff, beq_iff_eq, decide_eq_true_eq, ByteArray.toList_eq, ByteArray.toList_eq]
  constructor
  · intro h
    exact bytes_inj' a b ha hb (by simpa [bytesOf] using h)
  · intro h
    rw [h]

/-- The end of the reading: the node's capability, and the encoding anew. -/
def fin66 (bs : List Int) (i : Id) (p : List Id) (rest : List Int) (bad : Bool) : Option Node :=
  if bad = true ∨ rest.length < 10 then none else
  if decOk (rest.take 10) = true ∧ nodeOk ⟨i, p, decCap (rest.take 10)⟩ = true ∧ nodeCode ⟨i, p, decCap (rest.take 10)⟩ = bs then some ⟨i, p, decCap (rest.take 10)⟩ else none

noncomputable def tail66 (bs : List Int) (i : Id) (p : List Id) (rest : List Int) (bad : Bool) : Option NodeT :=
  (g92 (byteCells rest) bad 10).bind fun (r27 : List (List AV) × List (List AV) × Bool) =>
  (g41 r27.1).bind fun (r30 : Int × Int × Int × Int × Int × Int × Bool × Int) =>
  (g64 i.core i.op i.part (idCells p) r30.1 r30.2.1 r30.2.2.1 r30.2.2.2.1 r30.2.2.2.2.1 r30.2.2.2.2.2.1 r30.2.2.2.2.2.2.1).bind fun (r38 : List (List AV) × Int) =>
  if r27.2.2 = true then some (0, 0, 0, ([] : List (List AV)), 0, 0, 0, 0, 0, 0, false, 14)
  else if (cop .neq r30.2.2.2.2.2.2.2 0) = true then some (0, 0, 0, ([] : List (List AV)), 0, 0, 0, 0, 0, 0, false, 14)
  else if (cop .neq r38.2 0) = true then some (0, 0, 0, ([] : List (List AV)), 0, 0, 0, 0, 0, 0, false, 14)
  else (g93 r38.1 (byteCells bs)).bind fun (r40 : Bool) =>
    if (!r40) = true then some (0, 0, 0, ([] : List (List AV)), 0, 0, 0, 0, 0, 0, false, 14)
    else some (i.core, i.op, i.part, idCells p, r30.1, r30.2.1, r30.2.2.1, r30.2.2.2.1, r30.2.2.2.2.1, r30.2.2.2.2.2.1, r30.2.2.2.2.2.2.1, 0)

theorem nodeB_bytes (n : Node) : Bytes (nodeB n) := by
  unfold nodeB
  split
  · rename_i h; exact code_bytes n h
  · simp [Bytes]

theorem tail66_eq {bs rest : List Int} (hb : Bytes bs) (hr : Bytes rest) (i : Id) (p : List Id) (hp : p.length < 2 ^ 62) (bad : Bool) : tail66 bs i p rest bad = some (nodeOut (fin66 bs i p rest bad)) := by
  have e0 : ([] : List (List AV)) = byteCells [] := rfl
  unfold tail66 fin66
  rw [s92, Option.bind_some]
  by_cases h : bad = true ∨ rest.length < 10
  · rw [if_pos h, if_pos h]
    dsimp only
    rw [e0, s41 (by simp [Bytes]) (by simp), Option.bind_some]
    have q := s64 ⟨i, p, ⟨(decRes []).1, (decRes []).2.1, (decRes []).2.2.1, (decRes []).2.2.2.1, (decRes []).2.2.2.2.1, (decRes []).2.2.2.2.2.1, (decRes []).2.2.2.2.2.2.1⟩⟩ hp
    dsimp only at q
    rw [q, Option.bind_some]
    rfl
  · rw [if_neg h, if_neg h]
    dsimp only
    have ht : Bytes (rest.take 10) := fun z hz => hr z (List.mem_of_mem_take hz)
    rw [s41 ht (by rw [List.length_take]; omega), Option.bind_some]
    generalize rest.take 10 = L at ht
    unfold decRes
    cases hd : decOk L with
    | false =>
      rw [if_neg Bool.false_ne_true]
      dsimp only
      have q := s64 ⟨i, p, ⟨0, 0, 0, 0, 0, 0, false⟩⟩ hp
      dsimp only at q
      rw [q, Option.bind_some]
      refine ite_goal (fun h => absurd h (by decide)) fun _ => ?_
      refine ite_goal (fun _ => ?_) fun h => absurd (by decide) h
      rw [if_neg (by simp)]
      rfl
    | true =>
      rw [if_pos rfl]
      dsimp only
      have q := s64 ⟨i, p, decCap L⟩ hp
      dsimp only at q
      rw [q, Option.bind_some]
      refine ite_goal (fun h => absurd h (by decide)) fun _ => ?_
      refine ite_goal (fun h => absurd h (by decide)) fun _ => ?_
      dsimp only
      unfold nodeE
      cases hn : nodeOk ⟨i, p, decCap L⟩ with
      | false =>
        rw [if_neg Bool.false_ne_true]
        refine ite_goal (fun _ => ?_) fun h => absurd (by decide) h
        rw [if_neg (by simp)]
        rfl
      | true =>
        rw [if_pos rfl]
        refine ite_goal (fun h => absurd h (by decide)) fun _ => ?_
        rw [s93 (nodeB_bytes _) hb, Option.bind_some, show nodeB ⟨i, p, decCap L⟩ = nodeCode ⟨i, p, decCap L⟩ from if_pos hn]
        by_cases hc : nodeCode ⟨i, p, decCap L⟩ = bs
        · rw [if_neg (by simp [hc]), if_pos ⟨rfl, rfl, hc⟩]
          rfl
        · rw [if_pos (by simp [hc]), if_neg (fun hh => hc hh.2.2)]
          rfl

theorem l66t {bs : List Int} (hb : Bytes bs) (i : Id) (c : Int) (y3 : List (List AV)) (hy : y3 = []) : ∀ (m k fuel : Nat) (acc : List Id) (rest : List Int) (bad : Bool), rest.length ≤ m → m + 1 < fuel → Bytes rest → acc.length = k → k + rest.length ≤ 1000 →
    ∃ p rest' bad', g66L0 fuel (byteCells bs) 0 0 0 y3 0 0 0 0 0 0 false i.core i.op i.part (idCells acc) 0 0 0 0 0 0 false c (k : Int) (byteCells rest) bad = some (nodeOut (fin66 bs i p rest' bad')) := by
  subst hy
  have fin : ∀ (f k : Nat) (acc : List Id) (rest : List Int) (bad : Bool), Bytes rest → acc.length ≤ 2000 → (¬ ((k : Int) < c) ∨ bad = true) →
      g66L0 (f + 1) (byteCells bs) 0 0 0 [] 0 0 0 0 0 0 false i.core i.op i.part (idCells acc) 0 0 0 0 0 0 false c (k : Int) (byteCells rest) bad = some (nodeOut (fin66 bs i acc rest bad)) := by
    intro f k acc rest bad hr ha hk
    have ht := tail66_eq hb hr i acc (by omega) bad
    unfold tail66 at ht
    rw [g66L0_eq]
    by_cases hlt : (k : Int) < c
    · have hbad : bad = true := hk.resolve_left fun h => h hlt
      refine ite_goal (fun _ => ?_) fun h => absurd (by simp only [cop_lss_t, cop_lss_f, cop_leq_t, cop_leq_f, cop_gtr_t, cop_gtr_f, cop_geq_t, cop_geq_f, cop_eql_t, cop_eql_f, cop_neq_t, cop_neq_f, Bool.not_eq_true, Bool.not_eq_false, Bool.not_eq_true', Bool.not_eq_false', Bool.and_eq_true, Bool.or_eq_true, decide_eq_true_eq, decide_eq_false_iff_not, Bool.false_eq_true, Bool.true_eq_false, Option.bind_some, Option.some.injEq, false_iff, true_iff, iff_false, iff_true]; omega) h
      refine ite_goal (fun h => ?_) fun _ => ht
      rw [hbad] at h
      cases h
    · exact ite_goal (fun h => absurd h (by simp only [cop_lss_t, cop_lss_f, cop_leq_t, cop_leq_f, cop_gtr_t, cop_gtr_f, cop_geq_t, cop_geq_f, cop_eql_t, cop_eql_f, cop_neq_t, cop_neq_f, Bool.not_eq_true, Bool.not_eq_false, Bool.not_eq_true', Bool.not_eq_false', Bool.and_eq_true, Bool.or_eq_true, decide_eq_true_eq, decide_eq_false_iff_not, Bool.false_eq_true, Bool.true_eq_false, Option.bind_some, Option.some.injEq, false_iff, true_iff, iff_false, iff_true]; omega)) fun _ => ht
  intro m
  induction m with
  | zero =>
    intro k fuel acc rest bad hm hf hr ha hk
    obtain ⟨f, rfl⟩ : ∃ f, fuel = f + 2 := ⟨fuel - 2, by omega⟩
    by_cases hex : ¬ ((k : Int) < c) ∨ bad = true
    · exact ⟨acc, rest, bad, fin (f + 1) k acc rest bad hr (by omega) hex⟩
    · have hlt : (k : Int) < c := by
        by_cases h : (k : Int) < c
        · exact h
        · exact (hex (.inl h)).elim
      have hbad : bad = false := by
        cases bad with
        | false => rfl
        | true => exact (hex (.inr rfl)).elim
      subst hbad
      obtain ⟨x, y, z, bs', bad', h1, h2, h3, h4⟩ := s90t hr false
      have hb' : bad' = true := by
        cases bad' with
        | true => rfl
        | false => have := (h4 rfl).2; omega
      subst hb'
      have a4 : iop .add .i64 (k : Int) 1 = ((k + 1 : Nat) : Int) := by rw [add_i (by omega) (by omega)]; omega
      have hsn := ids_snoc acc ⟨x, y, z⟩
      dsimp only at hsn
      refine ⟨acc ++ [⟨x, y, z⟩], bs', true, ?_⟩
      rw [g66L0_eq, if_pos (by simp only [cop_lss_t, cop_lss_f, cop_leq_t, cop_leq_f, cop_gtr_t, cop_gtr_f, cop_geq_t, cop_geq_f, cop_eql_t, cop_eql_f, cop_neq_t, cop_neq_f, Bool.not_eq_true, Bool.not_eq_false, Bool.not_eq_true', Bool.not_eq_false', Bool.and_eq_true, Bool.or_eq_true, decide_eq_true_eq, decide_eq_false_iff_not, Bool.false_eq_true, Bool.true_eq_false, Option.bind_some, Option.some.injEq, false_iff, true_iff, iff_false, iff_true]; omega), if_pos (by simp), h1, Option.bind_some]
      dsimp only
      rw [reqK_pos (room_ok (by rw [ids_len]; simp; omega)), hsn, a4]
      exact fin f (k + 1) _ bs' true h2 (by simp; omega) (.inr rfl)
  | succ m ih =>
    intro k fuel acc rest bad hm hf hr ha hk
    obtain ⟨f, rfl⟩ : ∃ f, fuel = f + 2 := ⟨fuel - 2, by omega⟩
    by_cases hex : ¬ ((k : Int) < c) ∨ bad = true
    · exact ⟨acc, rest, bad, fin (f + 1) k acc rest bad hr (by omega) hex⟩
    · have hlt : (k : Int) < c := by
        by_cases h : (k : Int) < c
        · exact h
        · exact (hex (.inl h)).elim
      have hbad : bad = false := by
        cases bad with
        | false => rfl
        | true => exact (hex (.inr rfl)).elim
      subst hbad
      obtain ⟨x, y, z, bs', bad', h1, h2, h3, h4⟩ := s90t hr false
      have a4 : iop .add .i64 (k : Int) 1 = ((k + 1 : Nat) : Int) := by rw [add_i (by omega) (by omega)]; omega
      have hsn := ids_snoc acc ⟨x, y, z⟩
      dsimp only at hsn
      rw [g66L0_eq, if_pos (by simp only [cop_lss_t, cop_lss_f, cop_leq_t, cop_leq_f, cop_gtr_t, cop_gtr_f, cop_geq_t, cop_geq_f, cop_eql_t, cop_eql_f, cop_neq_t, cop_neq_f, Bool.not_eq_true, Bool.not_eq_false, Bool.not_eq_true', Bool.not_eq_false', Bool.and_eq_true, Bool.or_eq_true, decide_eq_true_eq, decide_eq_false_iff_not, Bool.false_eq_true, Bool.true_eq_false, Option.bind_some, Option.some.injEq, false_iff, true_iff, iff_false, iff_true]; omega), if_pos (by simp), h1, Option.bind_some]
      dsimp only
      rw [reqK_pos (room_ok (by rw [ids_len]; simp; omega)), hsn, a4]
      cases bad' with
      | true => exact ⟨_, _, _, fin f (k + 1) _ bs' true h2 (by simp; omega) (.inr rfl)⟩
      | false =>
        have := (h4 rfl).2
        exact ih (k + 1) (f + 1) _ bs' false (by omega) (by omega) h2 (by simp; omega) (by omega)

theorem l66e {bs : List Int} (hb : Bytes bs) (i : Id) (r : List Int) (hr : Bytes r) (c : Nat) (hc : c ≤ 8) : ∀ (l : List Id) (k fuel : Nat) (acc : List Id), c = k + l.length → l.length < fuel → acc.length = k → (∀ x ∈ l, idOk x = true) →
    g66L0 fuel (byteCells bs) 0 0 0 [] 0 0 0 0 0 0 false i.core i.op i.part (idCells acc) 0 0 0 0 0 0 false (c : Int) (k : Int) (byteCells ((l.map idB).flatten ++ r)) false = some (nodeOut (fin66 bs i (acc ++ l) r false)) := by
  intro l
  induction l with
  | nil =>
    intro k fuel acc h hf ha hx
    obtain ⟨f, rfl⟩ : ∃ f, fuel = f + 1 := ⟨fuel - 1, by simp at hf; omega⟩
    have hck : c = k := by simpa using h
    have ht := tail66_eq hb hr i acc (by omega) false
    unfold tail66 at ht
    rw [g66L0_eq, List.append_nil]
    exact ite_goal (fun h => absurd h (by simp only [cop_lss_t, cop_lss_f, cop_leq_t, cop_leq_f, cop_gtr_t, cop_gtr_f, cop_geq_t, cop_geq_f, cop_eql_t, cop_eql_f, cop_neq_t, cop_neq_f, Bool.not_eq_true, Bool.not_eq_false, Bool.not_eq_true', Bool.not_eq_false', Bool.and_eq_true, Bool.or_eq_true, decide_eq_true_eq, decide_eq_false_iff_not, Bool.false_eq_true, Bool.true_eq_false, Option.bind_some, Option.some.injEq, false_iff, true_iff, iff_false, iff_true]; omega)) fun _ => ht
  | cons x l ih =>
    intro k fuel acc h hf ha hx
    obtain ⟨f, rfl⟩ : ∃ f, fuel = f + 1 := ⟨fuel - 1, by simp at hf; omega⟩
    simp only [List.length_cons] at h hf
    have a4 : iop .add .i64 (k : Int) 1 = ((k + 1 : Nat) : Int) := by rw [add_i (by omega) (by omega)]; omega
    have hsn := ids_snoc acc x
    have q := s90e (hx x (by simp)) ((l.map idB).flatten ++ r)
    rw [g66L0_eq, if_pos (by simp only [cop_lss_t, cop_lss_f, cop_leq_t, cop_leq_f, cop_gtr_t, cop_gtr_f, cop_geq_t, cop_geq_f, cop_eql_t, cop_eql_f, cop_neq_t, cop_neq_f, Bool.not_eq_true, Bool.not_eq_false, Bool.not_eq_true', Bool.not_eq_false', Bool.and_eq_true, Bool.or_eq_true, decide_eq_true_eq, decide_eq_false_iff_not, Bool.false_eq_true, Bool.true_eq_false, Option.bind_some, Option.some.injEq, false_iff, true_iff, iff_false, iff_true]; omega), if_pos (by simp), List.map_cons, List.flatten_cons, List.append_assoc, q, Option.bind_some]
    dsimp only
    rw [reqK_pos (room_ok (by rw [ids_len]; simp; omega)), hsn, a4, ih (k + 1) f _ (by omega) (by omega) (by simp; omega) (fun y hy => hx y (by simp [hy]))]
    simp [List.append_assoc]

theorem fin66_some {bs rest : List Int} {i : Id} {p : List Id} {bad : Bool} {n : Node} (h : fin66 bs i p rest bad = some n) : nodeOk n = true ∧ nodeCode n = bs := by
  unfold fin66 at h
  split at h
  · cases h
  · split at h
    · rename_i hh
      simp only [Option.some.injEq] at h
      subst h
      exact hh.2
    · cases h

/-- multikernelref10.DecodeNode -/
theorem s66 {bs : List Int} (hb : Bytes bs) (hl : bs.length ≤ 900) : g66 (byteCells bs) = some (nodeOut (decN bs)) := by
  cases hd : decN bs with
  | some n =>
    obtain ⟨hn, hc⟩ := dec_code hb hd
    obtain ⟨h1, h2, h3, h4⟩ := node_of hn
    have h35 : (2 : Nat) ^ 35 = 34359738368 := by decide
    have hcap : Bytes (capCode n.cap) := by
      have := enc_bytes n.cap
      rwa [capB h2] at this
    obtain ⟨d1, d2⟩ := dec_enc h2
    rw [capB h2] at d1 d2
    have q1 := s90e h1 (uv n.path.length ++ ((n.path.map idB).flatten ++ capCode n.cap))
    have q2 := s91e n.path.length (by omega) ((n.path.map idB).flatten ++ capCode n.cap)
    have q3 := l66e hb n.id (capCode n.cap) hcap n.path.length h3 n.path 0 FUEL [] (by omega) (fuel_lt (by omega)) rfl fun x hx => path_ok hn x hx
    have ebs : byteCells bs = byteCells (idB n.id ++ (uv n.path.length ++ ((n.path.map idB).flatten ++ capCode n.cap))) := by
      rw [← hc]
      simp [nodeCode, List.append_assoc]
    have efin : fin66 bs n.id n.path (capCode n.cap) false = some n := by
      have hl10 : (capCode n.cap).length = 10 := rfl
      unfold fin66
      rw [if_neg (by rw [hl10]; simp), List.take_of_length_le (by omega), d1, if_pos ⟨d2, hn, hc⟩]
    rw [List.nil_append, efin] at q3
    rw [g66_eq]
    have q1' := q1
    rw [← ebs] at q1'
    rw [q1', Option.bind_some]
    dsimp only
    rw [q2, Option.bind_some]
    exact q3
  | none =>
    obtain ⟨x, y, z, b1, d1, h1, h2, h3, h4⟩ := s90t hb false
    obtain ⟨v, b2, d2, k1, k2, k3, k4⟩ := s91t h2 d1
    obtain ⟨p, r, bad, hg⟩ := l66t hb ⟨x, y, z⟩ v [] rfl b2.length 0 FUEL [] b2 d2 (Nat.le_refl _) (fuel_lt (by omega)) k2 rfl (by omega)
    rw [g66_eq, h1, Option.bind_some]
    dsimp only
    rw [k1, Option.bind_some]
    dsimp only
    refine hg.trans ?_
    cases hf : fin66 bs ⟨x, y, z⟩ p r bad with
    | none => rfl
    | some n =>
      obtain ⟨m1, m2⟩ := fin66_some hf
      have := dec_good m1
      rw [m2, hd] at this
      cases this

end Go.Proofs.Ytjfhdhplmibnfaa
end

section
namespace Go.Proofs.Ytjfhdhplmibnfaa
open Go Go.AM
set_option linter.unusedSimpArgs false
set_option linter.unusedVariables false

theorem dec_path {bs : List Int} (hb : Bytes bs) {n : Node} (h : decN bs = some n) : n.path.length ≤ 8 := (node_of (dec_code hb h).1).2.2.1

theorem s18 (n : Node) (L : List Int) (hb : Bytes L) : g18 n.id.core n.id.op n.id.part (idCells n.path) n.cap.kind n.cap.base n.cap.bits n.cap.rights n.cap.width n.cap.level n.cap.device (byteCells L) = some true := by
  rw [g18_eq, ids_len, bytes_len, s42, Option.bind_some]
  refine ite_goal (fun _ => rfl) fun hP => ?_
  refine ite_goal (fun _ => rfl) fun hL => ?_
  have hP' : n.path.length ≤ 40 := by simp only [cop_lss_t, cop_lss_f, cop_leq_t, cop_leq_f, cop_gtr_t, cop_gtr_f, cop_geq_t, cop_geq_f, cop_eql_t, cop_eql_f, cop_neq_t, cop_neq_f, Bool.not_eq_true, Bool.not_eq_false, Bool.not_eq_true', Bool.not_eq_false', Bool.and_eq_true, Bool.or_eq_true, decide_eq_true_eq, decide_eq_false_iff_not, Bool.false_eq_true, Bool.true_eq_false, Option.bind_some, Option.some.injEq, false_iff, true_iff, iff_false, iff_true] at hP; omega
  have hL' : L.length ≤ 400 := by simp only [cop_lss_t, cop_lss_f, cop_leq_t, cop_leq_f, cop_gtr_t, cop_gtr_f, cop_geq_t, cop_geq_f, cop_eql_t, cop_eql_f, cop_neq_t, cop_neq_f, Bool.not_eq_true, Bool.not_eq_false, Bool.not_eq_true', Bool.not_eq_false', Bool.and_eq_true, Bool.or_eq_true, decide_eq_true_eq, decide_eq_false_iff_not, Bool.false_eq_true, Bool.true_eq_false, Option.bind_some, Option.some.injEq, false_iff, true_iff, iff_false, iff_true] at hL; omega
  rw [s44 n (by omega), Option.bind_some]
  dsimp only
  rw [s63 n (by omega), Option.bind_some, s64 n (by omega), Option.bind_some]
  dsimp only
  rw [reqK_pos (room1 (by simp) (by rw [bytes_len]; omega)), s65 hb (by omega), Option.bind_some, s66 hb (by omega), Option.bind_some, reqK_pos (bytes_ok (nodeB_bytes n)), reqK_pos (bytes_ok (nodeB_bytes n))]
  refine ite_goal (fun _ => ?_) fun h => absurd (by simp) h
  refine ite_goal (fun _ => ?_) fun h => absurd (by simp [cop]) h
  cases hd : decN L with
  | none =>
    dsimp only [nodeOut]
    have e0 : ([] : List (List AV)) = idCells [] := rfl
    rw [e0, s46 _ _ _ _ (by simp), Option.bind_some, if_pos rfl]
    exact ite_goal (fun _ => rfl) fun h => absurd (by decide) h
  | some m =>
    have := dec_path hb hd
    dsimp only [nodeOut]
    rw [s46 _ _ _ _ (by omega), Option.bind_some, if_pos rfl]
    exact ite_goal (fun _ => rfl) fun h => absurd (by decide) h

end Go.Proofs.Ytjfhdhplmibnfaa
end
