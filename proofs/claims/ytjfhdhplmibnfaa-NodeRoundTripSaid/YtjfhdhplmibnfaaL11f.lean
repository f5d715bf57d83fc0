/- The encoding of capabilities. -/
import Derived.Test.YtjfhdhplmibnfaaL11e
import Derived.Test.YtjfhdhplmibnfaaF11b
namespace Go.Proofs.Ytjfhdhplmibnfaa
open Go Go.AM
set_option linter.unusedSimpArgs false
set_option linter.unusedVariables false

theorem bytes_len (l : List Int) : (byteCells l).length = l.length := by simp [byteCells]

theorem bytes_ok {l : List Int} (h : Bytes l) : bytesP (byteCells l) := by
  intro e he
  obtain ⟨z, hz, rfl⟩ := List.mem_map.1 he
  exact ⟨z, (h z hz).1, (h z hz).2, rfl⟩

theorem bytes_at {l : List Int} {i : Nat} {z : Int} (h : l[i]? = some z) : (byteCells l)[i]? = some [AV.val (.int .u8 z)] := by
  simp [byteCells, h, u8c]

theorem elem_byte {γ : Type} {l : List Int} {i : Int} {z : Int} (k : Int → Option γ) (h0 : 0 ≤ i) (h : l[i.toNat]? = some z) : elemK (byteCells l) i [.int .u8] k = k z :=
  elemK_at (sh := [.int .u8]) (r := z) k h0 (bytes_at h) rfl

theorem wrap8 (z : Int) : IntKind.wrap .u8 z = z % 256 := by
  have hb : IntKind.u8.bits = 8 := rfl
  have hs : IntKind.u8.signed = false := rfl
  simp [IntKind.wrap, hb, hs]

theorem byte_at {l : List Int} (i : Nat) (h : i < l.length) : l[i]? = some (l.getD i 0) := by simp [h]

theorem byte_in {l : List Int} (hb : Bytes l) (i : Nat) (h : i < l.length) : 0 ≤ l.getD i 0 ∧ l.getD i 0 ≤ 255 := by
  have : l.getD i 0 = l[i] := by simp [h]
  rw [this]
  exact hb _ (List.getElem_mem h)

theorem shr_i {a : Int} {n : Nat} (h : n ≤ 64) : iop .shr .i64 a n = a / 2 ^ n := by
  have hmin : min ((n : Int)).toNat IntKind.i64.bits = n := by
    have : IntKind.i64.bits = 64 := rfl
    omega
  simp only [iop, hmin]
  rw [Int.fdiv_eq_ediv_of_nonneg _ (by have := pow_pos2 n; omega)]

theorem and255 (x : Int) : IntKind.wrap .u8 (iop .and .i64 x 255) = IntKind.wrap .u8 x := by
  rw [wrap8, wrap8, and_bv, BitVec.toInt_eq_toNat_cond]
  have h1 : (BitVec.ofInt 64 x &&& BitVec.ofInt 64 255).toNat = (x % 2 ^ 64).toNat % 256 := by
    rw [BitVec.toNat_and, BitVec.toNat_ofInt, BitVec.toNat_ofInt]
    have h255 : ((255 : Int) % ((2 ^ 64 : Nat) : Int)).toNat = 2 ^ 8 - 1 := by decide
    rw [h255, Nat.and_two_pow_sub_one_eq_mod]
    rfl
  have h64 : (2 : Int) ^ 64 = 18446744073709551616 := by decide
  have h65 : (2 : Nat) ^ 64 = 18446744073709551616 := by decide
  rw [h1, h64, h65]
  split <;> omega

/-- captype.Encode -/
def capCode (c : Cap) : List Int := [c.kind, c.bits, c.rights + (if c.device = true then 8 else 0), c.width, c.level, c.base % 256, c.base / 256 % 256, c.base / 65536 % 256, c.base / 16777216 % 256, c.base / 4294967296 % 256]

def encB (c : Cap) : List Int := if capOk c = true then capCode c else []
def encE (c : Cap) : Int := if capOk c = true then 0 else 1

theorem cap_nums {c : Cap} (h : capOk c = true) : 1 ≤ c.kind ∧ c.kind ≤ 6 ∧ 6 ≤ c.bits ∧ c.bits ≤ 40 ∧ 0 ≤ c.rights ∧ c.rights ≤ 7 ∧ 0 ≤ c.width ∧ c.width ≤ 39 ∧ 0 ≤ c.level ∧ c.level ≤ 2 ∧ 0 ≤ c.base ∧ c.base < 1099511627776 := by
  obtain ⟨r1, r2, r3, r4, r5⟩ := rngOk_of (cap_rng h)
  have hp := pow_pos2 c.bits.toNat
  simp only [capOk, Bool.and_eq_true, decide_eq_true_eq] at h
  obtain ⟨⟨⟨⟨h1, h2⟩, h3⟩, h4⟩, h5⟩ := h
  simp only [sizeOk, decide_eq_true_eq] at h1
  have h6 : 0 ≤ c.width ∧ c.width ≤ 39 ∧ 0 ≤ c.level ∧ c.level ≤ 2 := by
    split at h4
    · simp only [formOk, decide_eq_true_eq] at h4
      omega
    · simp only [decide_eq_true_eq] at h4
      omega
  omega

theorem room1 {a b : List (List AV)} (ha : a.length ≤ 1000000) (hb : b.length ≤ 1000000) : roomP a b 1 := by
  unfold roomP roomMax
  omega

theorem fuel6 : ∃ f, FUEL = f + 1 + 1 + 1 + 1 + 1 + 1 := ⟨FUEL - 6, by decide⟩

theorem enc_tail {f : Nat} {k b s r w l : Int} {d : Bool} {x0 x1 x2 x3 x4 : Int} : g38L0 (f + 1 + 1 + 1 + 1 + 1 + 1) k b s r w l d (byteCells [x0, x1, x2, x3, x4]) 0 =
    some (byteCells [x0, x1, x2, x3, x4, b % 256, b / 256 % 256, b / 65536 % 256, b / 16777216 % 256, b / 4294967296 % 256], 0) := by
  have q0 : iop .shr .i64 b (iop .mul .i64 8 0) = b := by rw [show iop .mul .i64 8 0 = ((0 : Nat) : Int) by decide, shr_i (by decide)]; simp
  have q1 : iop .shr .i64 b (iop .mul .i64 8 1) = b / 256 := by rw [show iop .mul .i64 8 1 = ((8 : Nat) : Int) by decide, shr_i (by decide)]; rfl
  have q2 : iop .shr .i64 b (iop .mul .i64 8 2) = b / 65536 := by rw [show iop .mul .i64 8 2 = ((16 : Nat) : Int) by decide, shr_i (by decide)]; rfl
  have q3 : iop .shr .i64 b (iop .mul .i64 8 3) = b / 16777216 := by rw [show iop .mul .i64 8 3 = ((24 : Nat) : Int) by decide, shr_i (by decide)]; rfl
  have q4 : iop .shr .i64 b (iop .mul .i64 8 4) = b / 4294967296 := by rw [show iop .mul .i64 8 4 = ((32 : Nat) : Int) by decide, shr_i (by decide)]; rfl
  rw [g38L0_eq, if_pos (by decide), reqK_pos (by decide), reqK_pos (room1 (by simp [byteCells]) (by simp)), q0, show iop .add .i64 0 1 = 1 by decide,
    g38L0_eq, if_pos (by decide), reqK_pos (by decide), reqK_pos (room1 (by simp [byteCells]) (by simp)), q1, show iop .add .i64 1 1 = 2 by decide,
    g38L0_eq, if_pos (by decide), reqK_pos (by decide), reqK_pos (room1 (by simp [byteCells]) (by simp)), q2, show iop .add .i64 2 1 = 3 by decide,
    g38L0_eq, if_pos (by decide), reqK_pos (by decide), reqK_pos (room1 (by simp [byteCells]) (by simp)), q3, show iop .add .i64 3 1 = 4 by decide,
    g38L0_eq, if_pos (by decide), reqK_pos (by decide), reqK_pos (room1 (by simp [byteCells]) (by simp)), q4, show iop .add .i64 4 1 = 5 by decide,
    g38L0_eq, if_neg (by decide)]
  simp only [wrap8]
  rfl

theorem s38 (k b s r w l : Int) (d : Bool) : g38 k b s r w l d = some (byteCells (encB ⟨k, b, s, r, w, l, d⟩), encE ⟨k, b, s, r, w, l, d⟩) := by
  rw [g38_eq, s28]
  simp only [Option.bind_some]
  cases hc : capOk ⟨k, b, s, r, w, l, d⟩ with
  | false => simp [encB, encE, hc, byteCells]
  | true =>
    obtain ⟨h1, h2, h3, h4, h5, h6, h7, h8, h9, h10, h11, h12⟩ := cap_nums hc
    simp only at h1 h2 h3 h4 h5 h6 h7 h8 h9 h10 h11 h12
    have a8 : iop .add .i64 r 8 = r + 8 := add_i (by omega) (by omega)
    have w1 : k % 256 = k := by omega
    have w2 : s % 256 = s := by omega
    have w3 : r % 256 = r := by omega
    have w4 : (r + 8) % 256 = r + 8 := by omega
    have w5 : w % 256 = w := by omega
    have w6 : l % 256 = l := by omega
    obtain ⟨f, hf⟩ := fuel6
    simp only [Bool.not_true, Bool.false_eq_true, if_false, wrap8, a8, w1, w2, w3, w4, w5, w6, hf]
    cases d
    · have := enc_tail (f := f) (k := k) (b := b) (s := s) (r := r) (w := w) (l := l) (d := false) (x0 := k) (x1 := s) (x2 := r) (x3 := w) (x4 := l)
      rw [if_neg (by simp)]
      simp only [encB, encE, hc, if_true, capCode, Bool.false_eq_true, if_false, Int.add_zero]
      exact this
    · have := enc_tail (f := f) (k := k) (b := b) (s := s) (r := r) (w := w) (l := l) (d := true) (x0 := k) (x1 := s) (x2 := r + 8) (x3 := w) (x4 := l)
      rw [if_pos rfl]
      simp only [encB, encE, hc, if_true, capCode]
      exact this

theorem enc_tail' {f : Nat} {k b s r w l : Int} {d : Bool} {x0 x1 x2 x3 x4 : Int} : g39L0 (f + 1 + 1 + 1 + 1 + 1 + 1) k b s r w l d (byteCells [x0, x1, x2, x3, x4]) 0 =
    some (byteCells [x0, x1, x2, x3, x4, b % 256, b / 256 % 256, b / 65536 % 256, b / 16777216 % 256, b / 4294967296 % 256], 0) := by
  have v0 : IntKind.wrap .u64 (iop .mul .i64 8 0) = ((0 : Nat) : Int) := by decide
  have v1 : IntKind.wrap .u64 (iop .mul .i64 8 1) = ((8 : Nat) : Int) := by decide
  have v2 : IntKind.wrap .u64 (iop .mul .i64 8 2) = ((16 : Nat) : Int) := by decide
  have v3 : IntKind.wrap .u64 (iop .mul .i64 8 3) = ((24 : Nat) : Int) := by decide
  have v4 : IntKind.wrap .u64 (iop .mul .i64 8 4) = ((32 : Nat) : Int) := by decide
  have q0 : iop .shr .i64 b ((0 : Nat) : Int) = b := by rw [shr_i (by decide)]; simp
  have q1 : iop .shr .i64 b ((8 : Nat) : Int) = b / 256 := shr_i (by decide)
  have q2 : iop .shr .i64 b ((16 : Nat) : Int) = b / 65536 := shr_i (by decide)
  have q3 : iop .shr .i64 b ((24 : Nat) : Int) = b / 16777216 := shr_i (by decide)
  have q4 : iop .shr .i64 b ((32 : Nat) : Int) = b / 4294967296 := shr_i (by decide)
  rw [g39L0_eq, if_pos (by decide), reqK_pos (by decide), reqK_pos (room1 (by simp [byteCells]) (by simp)), and255, v0, q0, show iop .add .i64 0 1 = 1 by decide,
    g39L0_eq, if_pos (by decide), reqK_pos (by decide), reqK_pos (room1 (by simp [byteCells]) (by simp)), and255, v1, q1, show iop .add .i64 1 1 = 2 by decide,
    g39L0_eq, if_pos (by decide), reqK_pos (by decide), reqK_pos (room1 (by simp [byteCells]) (by simp)), and255, v2, q2, show iop .add .i64 2 1 = 3 by decide,
    g39L0_eq, if_pos (by decide), reqK_pos (by decide), reqK_pos (room1 (by simp [byteCells]) (by simp)), and255, v3, q3, show iop .add .i64 3 1 = 4 by decide,
    g39L0_eq, if_pos (by decide), reqK_pos (by decide), reqK_pos (room1 (by simp [byteCells]) (by simp)), and255, v4, q4, show iop .add .i64 4 1 = 5 by decide,
    g39L0_eq, if_neg (by decide)]
  simp only [wrap8]
  rfl

theorem s39 (k b s r w l : Int) (d : Bool) : g39 k b s r w l d = some (byteCells (encB ⟨k, b, s, r, w, l, d⟩), encE ⟨k, b, s, r, w, l, d⟩) := by
  rw [g39_eq, s33]
  simp only [Option.bind_some]
  cases hc : capOk ⟨k, b, s, r, w, l, d⟩ with
  | false => simp [encB, encE, hc, byteCells]
  | true =>
    obtain ⟨h1, h2, h3, h4, h5, h6, h7, h8, h9, h10, h11, h12⟩ := cap_nums hc
    simp only at h1 h2 h3 h4 h5 h6 h7 h8 h9 h10 h11 h12
    have a8 : iop .add .i64 r 8 = r + 8 := add_i (by omega) (by omega)
    have w1 : k % 256 = k := by omega
    have w2 : s % 256 = s := by omega
    have w3 : r % 256 = r := by omega
    have w4 : (r + 8) % 256 = r + 8 := by omega
    have w5 : w % 256 = w := by omega
    have w6 : l % 256 = l := by omega
    obtain ⟨f, hf⟩ := fuel6
    simp only [Bool.not_true, Bool.false_eq_true, if_false, wrap8, a8, w1, w2, w3, w4, w5, w6, hf]
    cases d
    · have := enc_tail' (f := f) (k := k) (b := b) (s := s) (r := r) (w := w) (l := l) (d := false) (x0 := k) (x1 := s) (x2 := r) (x3 := w) (x4 := l)
      rw [if_neg (by simp)]
      simp only [encB, encE, hc, if_true, capCode, Bool.false_eq_true, if_false, Int.add_zero]
      exact this
    · have := enc_tail' (f := f) (k := k) (b := b) (s := s) (r := r) (w := w) (l := l) (d := true) (x0 := k) (x1 := s) (x2 := r + 8) (x3 := w) (x4 := l)
      rw [if_pos rfl]
      simp only [encB, encE, hc, if_true, capCode]
      exact this

end Go.Proofs.Ytjfhdhplmibnfaa
