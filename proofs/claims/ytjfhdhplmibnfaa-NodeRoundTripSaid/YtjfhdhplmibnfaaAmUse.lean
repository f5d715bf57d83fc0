/- How trees are used: environments, numbers. Generic: no program stands in it. -/
import Derived.Test.YtjfhdhplmibnfaaAmPlain
namespace Go.AM

def envL (l : List V) : Nat → V := fun n => (l[n]?).getD (.i 0)

theorem envL_at (l : List V) (n : Nat) : envL l n = (l[n]?).getD (.i 0) := rfl

abbrev I (z : Int) : AV := .val (.int .i64 z)
abbrev B (b : Bool) : AV := .val (.bool b)

theorem wrap_of {z : Int} (h1 : -(2 ^ 63 : Int) ≤ z) (h2 : z < 2 ^ 63) : IntKind.i64.wrap z = z := by
  have e : (2 : Int) ^ 63 = 9223372036854775808 := by decide
  rw [e] at h1 h2
  simp only [IntKind.wrap]
  have : IntKind.i64.signed = true := rfl
  simp [this, IntKind.bits]
  omega

theorem wrapu_of {z : Int} (h1 : 0 ≤ z) (h2 : z < 2 ^ 64) : IntKind.u64.wrap z = z := by
  have e : (2 : Int) ^ 64 = 18446744073709551616 := by decide
  rw [e] at h2
  simp only [IntKind.wrap]
  have : IntKind.u64.signed = false := rfl
  simp [this, IntKind.bits]
  omega

theorem add_i {a b : Int} (h1 : -(2 ^ 63 : Int) ≤ a + b) (h2 : a + b < 2 ^ 63) : iop .add .i64 a b = a + b := wrap_of h1 h2
theorem sub_i {a b : Int} (h1 : -(2 ^ 63 : Int) ≤ a - b) (h2 : a - b < 2 ^ 63) : iop .sub .i64 a b = a - b := wrap_of h1 h2
theorem mul_i {a b : Int} (h1 : -(2 ^ 63 : Int) ≤ a * b) (h2 : a * b < 2 ^ 63) : iop .mul .i64 a b = a * b := wrap_of h1 h2

theorem shl1 {b : Int} (h2 : b ≤ 62) : iop .shl .i64 1 b = 2 ^ b.toNat := by
  have hb : b.toNat ≤ 62 := by omega
  have hle : (2 : Int) ^ b.toNat ≤ 2 ^ 62 := by
    have := Nat.pow_le_pow_right (n := 2) (by omega) hb
    exact_mod_cast this
  have hpos : (0 : Int) < 2 ^ b.toNat := by
    have := Nat.pow_pos (n := b.toNat) (show 0 < 2 by omega)
    exact_mod_cast this
  have e62 : (2 : Int) ^ 62 = 4611686018427387904 := by decide
  have e63 : (2 : Int) ^ 63 = 9223372036854775808 := by decide
  have hmin : min b.toNat IntKind.i64.bits = b.toNat := by
    have : IntKind.i64.bits = 64 := rfl
    omega
  simp only [iop, hmin, Int.one_mul]
  rw [wrap_of (by omega) (by omega)]

theorem pow_pos2 (n : Nat) : (0 : Int) < 2 ^ n := by
  have := Nat.pow_pos (n := n) (show 0 < 2 by omega)
  exact_mod_cast this

theorem pow_le2 {m n : Nat} (h : m ≤ n) : (2 : Int) ^ m ≤ 2 ^ n := by
  have := Nat.pow_le_pow_right (n := 2) (by omega) h
  exact_mod_cast this

theorem bind_envL (l vs : List V) (n : Nat) (h : l.length = n) : bind (envL l) n vs = envL (l ++ vs) := by
  funext m
  unfold bind envL
  subst h
  split
  · rename_i hm
    rw [List.getElem?_append_left hm]
  · rename_i hm
    rw [List.getElem?_append_right (by omega), List.getElem?_eq_none (l := l) (by omega)]
    cases vs[m - l.length]? <;> rfl

theorem cop_lss_t (a b : Int) : (cop .lss a b = true) = (a < b) := by simp [cop]
theorem cop_lss_f (a b : Int) : (cop .lss a b = false) = (b ≤ a) := by simp [cop]
theorem cop_leq_t (a b : Int) : (cop .leq a b = true) = (a ≤ b) := by simp [cop]
theorem cop_leq_f (a b : Int) : (cop .leq a b = false) = (b < a) := by simp [cop]
theorem cop_gtr_t (a b : Int) : (cop .gtr a b = true) = (b < a) := by simp [cop]
theorem cop_gtr_f (a b : Int) : (cop .gtr a b = false) = (a ≤ b) := by simp [cop]
theorem cop_geq_t (a b : Int) : (cop .geq a b = true) = (b ≤ a) := by simp [cop]
theorem cop_geq_f (a b : Int) : (cop .geq a b = false) = (a < b) := by simp [cop]
theorem cop_eql_t (a b : Int) : (cop .eql a b = true) = (a = b) := by simp [cop]
theorem cop_eql_f (a b : Int) : (cop .eql a b = false) = (a ≠ b) := by simp [cop]
theorem cop_neq_t (a b : Int) : (cop .neq a b = true) = (a ≠ b) := by simp [cop]
theorem cop_neq_f (a b : Int) : (cop .neq a b = false) = (a = b) := by simp [cop]
theorem val_bool (x y : Bool) : (AV.val (.bool x) = AV.val (.bool y)) = (x = y) := by simp
theorem val_int (k : IntKind) (x y : Int) : (AV.val (.int k x) = AV.val (.int k y)) = (x = y) := by simp
theorem bool_iff (x y : Bool) : (x = y) = (x = true ↔ y = true) := by cases x <;> cases y <;> simp

end Go.AM
