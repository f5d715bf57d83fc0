/- What Retype computes, and the laws of capabilities that rest on it. -/
import Derived.Test.YtjfhdhplmibnfaaL11a
namespace Go.Proofs.Ytjfhdhplmibnfaa
open Go Go.AM
set_option linter.unusedSimpArgs false
set_option linter.unusedVariables false

/-- The cells of the capabilities that Retype makes. -/
def newCell (obj a sz bits r w l : Int) (d : Bool) (j : Nat) : List AV := [I obj, I (a + j * sz), I bits, I r, I w, I l, B d]
def newCells (obj a sz bits r w l : Int) (d : Bool) (n : Nat) : List (List AV) := (List.range n).map (newCell obj a sz bits r w l d)

theorem newCells_succ (obj a sz bits r w l : Int) (d : Bool) (n : Nat) : newCells obj a sz bits r w l d (n + 1) = newCells obj a sz bits r w l d n ++ [newCell obj a sz bits r w l d n] := by
  simp [newCells, List.range_succ]
theorem newCells_len (obj a sz bits r w l : Int) (d : Bool) (n : Nat) : (newCells obj a sz bits r w l d n).length = n := by simp [newCells]

theorem newCells_at (obj a sz bits r w l : Int) (d : Bool) (n i : Nat) (h : i < n) : (newCells obj a sz bits r w l d n)[i]? = some (newCell obj a sz bits r w l d i) := by
  simp [newCells, h]

theorem fuel_lt {n : Nat} (h : n < 2 ^ 64) : n < FUEL := by
  have : FUEL = 1208925819614629174706176 := rfl
  omega

theorem room_ok {a b : List (List AV)} {k : Nat} (h : (a.length + b.length) * (k + 1) ≤ 1099511627776) : roomP a b k := h

theorem l20 {b r w l k s : Int} {d : Bool} {lv wd bits sz off obj cnt : Int} (hb : 0 ≤ b) (hoff : 0 ≤ off) (hsz : 0 ≤ sz) (hc : cnt ≤ 8) (hm : b + off + 8 * sz < 2 ^ 62) : ∀ (j i fuel : Nat), cnt = i + j → j < fuel →
    g20L0 fuel obj bits lv wd off k b s r w l d sz (newCells obj (b + off) sz bits r wd lv d i) cnt i = some (newCells obj (b + off) sz bits r wd lv d cnt.toNat, 0) := by
  intro j
  have e62 : (2 : Int) ^ 62 = 4611686018427387904 := by decide
  induction j with
  | zero =>
    intro i fuel h hf
    obtain ⟨f, rfl⟩ : ∃ f, fuel = f + 1 := ⟨fuel - 1, by omega⟩
    rw [g20L0_eq, if_neg (by simp only [cop_lss_t, cop_lss_f, cop_leq_t, cop_leq_f, cop_gtr_t, cop_gtr_f, cop_geq_t, cop_geq_f, cop_eql_t, cop_eql_f, cop_neq_t, cop_neq_f, Bool.not_eq_true, Bool.not_eq_false, Bool.not_eq_true', Bool.not_eq_false', Bool.and_eq_true, Bool.or_eq_true, decide_eq_true_eq, decide_eq_false_iff_not, Bool.false_eq_true, Bool.true_eq_false, Option.bind_some, Option.some.injEq, false_iff, true_iff, iff_false, iff_true]; omega)]
    have : cnt.toNat = i := by omega
    rw [this]
  | succ j ih =>
    intro i fuel h hf
    obtain ⟨f, rfl⟩ : ∃ f, fuel = f + 1 := ⟨fuel - 1, by omega⟩
    have hsi : (i : Int) * sz ≤ 8 * sz := Int.mul_le_mul_of_nonneg_right (by omega) hsz
    have hsi0 : 0 ≤ (i : Int) * sz := Int.mul_nonneg (by omega) hsz
    have a1 : iop .add .i64 b off = b + off := add_i (by omega) (by omega)
    have a2 : iop .mul .i64 i sz = i * sz := mul_i (by omega) (by omega)
    have a3 : iop .add .i64 (b + off) (i * sz) = b + off + i * sz := add_i (by omega) (by omega)
    have a4 : iop .add .i64 i 1 = ((i + 1 : Nat) : Int) := by rw [add_i (by omega) (by omega)]; omega
    rw [g20L0_eq, if_pos (by simp only [cop_lss_t, cop_lss_f, cop_leq_t, cop_leq_f, cop_gtr_t, cop_gtr_f, cop_geq_t, cop_geq_f, cop_eql_t, cop_eql_f, cop_neq_t, cop_neq_f, Bool.not_eq_true, Bool.not_eq_false, Bool.not_eq_true', Bool.not_eq_false', Bool.and_eq_true, Bool.or_eq_true, decide_eq_true_eq, decide_eq_false_iff_not, Bool.false_eq_true, Bool.true_eq_false, Option.bind_some, Option.some.injEq, false_iff, true_iff, iff_false, iff_true]; omega), reqK_pos (room_ok (by rw [newCells_len]; simp; omega)), a1, a2, a3, a4]
    have := ih (i + 1) f (by omega) (by omega)
    rw [newCells_succ] at this
    exact this

theorem l21 {b r w l k s : Int} {d fl : Bool} {lv wd bits sz off obj cnt : Int} (hb : 0 ≤ b) (hoff : 0 ≤ off) (hsz : 0 ≤ sz) (hc : cnt ≤ 8) (hm : b + off + 8 * sz < 2 ^ 62) : ∀ (j i fuel : Nat), cnt = i + j → j < fuel →
    g21L0 fuel obj bits lv wd off cnt k b s r w l d fl sz (newCells obj (b + off) sz bits r (if fl = true then wd else 0) (if fl = true then lv else 0) d i) i = some (newCells obj (b + off) sz bits r (if fl = true then wd else 0) (if fl = true then lv else 0) d cnt.toNat, 0) := by
  intro j
  have e62 : (2 : Int) ^ 62 = 4611686018427387904 := by decide
  induction j with
  | zero =>
    intro i fuel h hf
    obtain ⟨f, rfl⟩ : ∃ f, fuel = f + 1 := ⟨fuel - 1, by omega⟩
    rw [g21L0_eq, if_neg (by simp only [cop_lss_t, cop_lss_f, cop_leq_t, cop_leq_f, cop_gtr_t, cop_gtr_f, cop_geq_t, cop_geq_f, cop_eql_t, cop_eql_f, cop_neq_t, cop_neq_f, Bool.not_eq_true, Bool.not_eq_false, Bool.not_eq_true', Bool.not_eq_false', Bool.and_eq_true, Bool.or_eq_true, decide_eq_true_eq, decide_eq_false_iff_not, Bool.false_eq_true, Bool.true_eq_false, Option.bind_some, Option.some.injEq, false_iff, true_iff, iff_false, iff_true]; omega)]
    have : cnt.toNat = i := by omega
    rw [this]
  | succ j ih =>
    intro i fuel h hf
    obtain ⟨f, rfl⟩ : ∃ f, fuel = f + 1 := ⟨fuel - 1, by omega⟩
    have hsi : (i : Int) * sz ≤ 8 * sz := Int.mul_le_mul_of_nonneg_right (by omega) hsz
    have hsi0 : 0 ≤ (i : Int) * sz := Int.mul_nonneg (by omega) hsz
    have a1 : iop .add .i64 b off = b + off := add_i (by omega) (by omega)
    have a2 : iop .mul .i64 i sz = i * sz := mul_i (by omega) (by omega)
    have a3 : iop .add .i64 (b + off) (i * sz) = b + off + i * sz := add_i (by omega) (by omega)
    have a4 : iop .add .i64 i 1 = ((i + 1 : Nat) : Int) := by rw [add_i (by omega) (by omega)]; omega
    have := ih (i + 1) f (by omega) (by omega)
    rw [newCells_succ] at this
    rw [g21L0_eq, if_pos (by simp only [cop_lss_t, cop_lss_f, cop_leq_t, cop_leq_f, cop_gtr_t, cop_gtr_f, cop_geq_t, cop_geq_f, cop_eql_t, cop_eql_f, cop_neq_t, cop_neq_f, Bool.not_eq_true, Bool.not_eq_false, Bool.not_eq_true', Bool.not_eq_false', Bool.and_eq_true, Bool.or_eq_true, decide_eq_true_eq, decide_eq_false_iff_not, Bool.false_eq_true, Bool.true_eq_false, Option.bind_some, Option.some.injEq, false_iff, true_iff, iff_false, iff_true]; omega)]
    cases fl
    · simp only [Bool.false_eq_true, if_false] at this ⊢
      rw [reqK_pos (room_ok (by rw [newCells_len]; simp; omega)), a1, a2, a3, a4]
      exact this
    · simp only [if_true] at this ⊢
      rw [reqK_pos (room_ok (by rw [newCells_len]; simp; omega)), a1, a2, a3, a4]
      exact this

theorem size_rng {k b : Int} (h : sizeOk k b = true) : 6 ≤ b ∧ b ≤ 40 := by
  simp only [sizeOk, decide_eq_true_eq] at h
  omega

theorem cap_rng {c : Cap} (h : capOk c = true) : rngOk c.base c.bits = true := by
  simp only [capOk, Bool.and_eq_true] at h
  exact h.1.1.1.2

/-- captype.Retype: the error -/
def retErr (c : Cap) (obj bits level width off cnt : Int) : Int :=
  if capOk c = false ∨ c.kind ≠ 1 then 5
  else if iop .and .i64 c.rights 2 = 0 then 8
  else if sizeOk obj bits = false ∨ (obj = 3 ∧ formOk width level = false) ∨ cnt < 1 ∨ 8 < cnt ∨ off < 0 then 1
  else if c.device = true ∧ obj ≠ 1 ∧ obj ≠ 2 then 5
  else if off % 2 ^ bits.toNat ≠ 0 ∨ 2 ^ c.bits.toNat - cnt * 2 ^ bits.toNat < off ∨ (obj = 1 ∧ c.bits ≤ bits) then 6
  else 0

/-- captype.Retype: the capabilities -/
def retCells (c : Cap) (obj bits level width off cnt : Int) : List (List AV) :=
  if retErr c obj bits level width off cnt = 0 then newCells obj (c.base + off) (2 ^ bits.toNat) bits c.rights (if obj = 3 then width else 0) (if obj = 3 then level else 0) c.device cnt.toNat else []

theorem ret_bad {c : Cap} {obj bits level width off cnt e : Int} (he : e ≠ 0) (h : retErr c obj bits level width off cnt = e) :
    some (([] : List (List AV)), e) = some (retCells c obj bits level width off cnt, retErr c obj bits level width off cnt) := by
  simp only [retCells, h, if_neg he]

/-- What the numbers come to where all is well. -/
theorem ret_nums {c : Cap} {obj bits off cnt : Int} (hc : capOk c = true) (hs : sizeOk obj bits = true) (h1 : 1 ≤ cnt) (h2 : cnt ≤ 8) (h3 : 0 ≤ off) :
    iop .shl .i64 1 bits = 2 ^ bits.toNat ∧ iop .rem .i64 off (2 ^ bits.toNat) = off % 2 ^ bits.toNat ∧ iop .shl .i64 1 c.bits = 2 ^ c.bits.toNat ∧ iop .mul .i64 cnt (2 ^ bits.toNat) = cnt * 2 ^ bits.toNat ∧
      iop .sub .i64 (2 ^ c.bits.toNat) (cnt * 2 ^ bits.toNat) = 2 ^ c.bits.toNat - cnt * 2 ^ bits.toNat ∧ (2 : Int) ^ bits.toNat ≠ 0 ∧ 0 ≤ bits ∧ 0 ≤ c.bits ∧ 0 ≤ c.base ∧ c.base + 2 ^ c.bits.toNat ≤ 1099511627776 ∧
      0 < (2 : Int) ^ bits.toNat ∧ (2 : Int) ^ bits.toNat ≤ 1099511627776 ∧ (2 : Int) ^ bits.toNat ≤ cnt * 2 ^ bits.toNat ∧ 0 < (2 : Int) ^ c.bits.toNat ∧ bits ≤ 40 ∧ c.bits ≤ 40 := by
  obtain ⟨b1, b2⟩ := size_rng hs
  obtain ⟨r1, r2, r3, r4, r5⟩ := rngOk_of (cap_rng hc)
  have p1 := pow_pos2 bits.toNat
  have p2 := pow_pos2 c.bits.toNat
  have q1 := pow_hi b2
  have q2 := pow_hi r2
  have m1 : cnt * 2 ^ bits.toNat ≤ 8 * 2 ^ bits.toNat := Int.mul_le_mul_of_nonneg_right (by omega) (by omega)
  have m2 : 1 * 2 ^ bits.toNat ≤ cnt * 2 ^ bits.toNat := Int.mul_le_mul_of_nonneg_right (by omega) (by omega)
  refine ⟨shl1 (by omega), rem_pow (by omega), shl1 (by omega), mul_i (by omega) (by omega), sub_i (by omega) (by omega), by omega, by omega, by omega, r3, r5, p1, q1, by omega, p2, b2, r2⟩

theorem reqK_id {γ : Type} {p : Prop} (h : p) : (reqK p : Option γ → Option γ) = fun x => x := funext fun x => reqK_pos h x

theorem s20 (k b s r w l : Int) (d : Bool) (obj bits level width off cnt : Int) : g20 k b s r w l d obj bits level width off cnt =
    some (retCells ⟨k, b, s, r, w, l, d⟩ obj bits level width off cnt, retErr ⟨k, b, s, r, w, l, d⟩ obj bits level width off cnt) := by
  rw [g20_eq]
  simp only [s28, s67, s68, Option.bind_some]
  by_cases hh : capOk ⟨k, b, s, r, w, l, d⟩ = true ∧ k = 1 ∧ iop .and .i64 r 2 ≠ 0 ∧ sizeOk obj bits = true ∧ (obj = 3 → formOk width level = true) ∧ 1 ≤ cnt ∧ cnt ≤ 8 ∧ 0 ≤ off
  · obtain ⟨h1, rfl, h3, h4, h5, h6, h7, h8⟩ := hh
    obtain ⟨n1, n2, n3, n4, n5, n6, n7, n8, n9, n10, n11, n12, n13, n14, n15, n16⟩ := ret_nums h1 h4 h6 h7 h8
    have q1 : (reqK ((0 : Int) ≤ bits) : Option (List (List AV) × Int) → _) = fun x => x := reqK_id n7
    have q2 : (reqK ((2 : Int) ^ bits.toNat ≠ 0) : Option (List (List AV) × Int) → _) = fun x => x := reqK_id n6
    have q3 : (reqK ((0 : Int) ≤ s) : Option (List (List AV) × Int) → _) = fun x => x := reqK_id n8
    simp only at n3 n5
    have loop : ∀ lv wd, off + cnt * 2 ^ bits.toNat ≤ 2 ^ s.toNat → g20L0 FUEL obj bits lv wd off 1 b s r w l d (2 ^ bits.toNat) [] cnt 0 = some (newCells obj (b + off) (2 ^ bits.toNat) bits r wd lv d cnt.toNat, 0) := by
      intro lv wd hle
      have := l20 (k := 1) (s := s) (r := r) (w := w) (l := l) (d := d) (lv := lv) (wd := wd) (bits := bits) (obj := obj) (cnt := cnt) n9 h8 (Int.le_of_lt n11) h7 (show b + off + 8 * 2 ^ bits.toNat < 2 ^ 62 by
        have e62 : (2 : Int) ^ 62 = 4611686018427387904 := by decide
        simp only at n10
        omega) cnt.toNat 0 FUEL (by omega) (fuel_lt (by omega))
      exact this
    have hR : retErr ⟨1, b, s, r, w, l, d⟩ obj bits level width off cnt = if d = true ∧ obj ≠ 1 ∧ obj ≠ 2 then 5 else if off % 2 ^ bits.toNat ≠ 0 ∨ 2 ^ s.toNat - cnt * 2 ^ bits.toNat < off ∨ (obj = 1 ∧ s ≤ bits) then 6 else 0 := by
      rw [retErr, if_neg (by simp [h1]), if_neg h3, if_neg (by
        rintro (h | ⟨h, h'⟩ | h | h | h)
        · rw [h4] at h; cases h
        · rw [h5 h] at h'; cases h'
        · omega
        · omega
        · omega)]
    have hk1 : cop .neq (1 : Int) 1 = false := rfl
    simp only [n1, n2, n3, n4, n5, q1, q2, q3, h1, h4, hk1, Bool.not_true, Bool.false_eq_true, if_false]
    clear n1 n2 n3 n4 n5 q1 q2 q3
    by_cases e5 : d = true ∧ obj ≠ 1 ∧ obj ≠ 2
    · rw [if_pos e5] at hR
      obtain ⟨hd, e1, e2⟩ := e5
      repeat' (with_reducible refine ite_goal (fun _ => ?_) (fun _ => ?_))
      all_goals first
        | exact ret_bad (by decide) hR
        | (exfalso; simp only [cop_lss_t, cop_lss_f, cop_leq_t, cop_leq_f, cop_gtr_t, cop_gtr_f, cop_geq_t, cop_geq_f, cop_eql_t, cop_eql_f, cop_neq_t, cop_neq_f, Bool.not_eq_true, Bool.not_eq_false, Bool.not_eq_true', Bool.not_eq_false', Bool.and_eq_true, Bool.or_eq_true, decide_eq_true_eq, decide_eq_false_iff_not, Bool.false_eq_true, Bool.true_eq_false, Option.bind_some, Option.some.injEq, false_iff, true_iff, iff_false, iff_true] at *; first | omega | grind)
    · rw [if_neg e5] at hR
      by_cases e6 : off % 2 ^ bits.toNat ≠ 0 ∨ 2 ^ s.toNat - cnt * 2 ^ bits.toNat < off ∨ (obj = 1 ∧ s ≤ bits)
      · rw [if_pos e6] at hR
        repeat' (with_reducible refine ite_goal (fun _ => ?_) (fun _ => ?_))
        all_goals first
          | exact ret_bad (by decide) hR
          | (exfalso; simp only [cop_lss_t, cop_lss_f, cop_leq_t, cop_leq_f, cop_gtr_t, cop_gtr_f, cop_geq_t, cop_geq_f, cop_eql_t, cop_eql_f, cop_neq_t, cop_neq_f, Bool.not_eq_true, Bool.not_eq_false, Bool.not_eq_true', Bool.not_eq_false', Bool.and_eq_true, Bool.or_eq_true, decide_eq_true_eq, decide_eq_false_iff_not, Bool.false_eq_true, Bool.true_eq_false, Option.bind_some, Option.some.injEq, false_iff, true_iff, iff_false, iff_true] at *; first | omega | grind)
      · rw [if_neg e6] at hR
        have hL : ∀ lv wd, g20L0 FUEL obj bits lv wd off 1 b s r w l d (2 ^ bits.toNat) [] cnt 0 = some (newCells obj (b + off) (2 ^ bits.toNat) bits r wd lv d cnt.toNat, 0) := fun lv wd => loop lv wd (by omega)
        simp only [hL, retCells, hR, if_true]
        repeat' (with_reducible refine ite_goal (fun _ => ?_) (fun _ => ?_))
        all_goals first
          | (simp only [cop_lss_t, cop_lss_f, cop_leq_t, cop_leq_f, cop_gtr_t, cop_gtr_f, cop_geq_t, cop_geq_f, cop_eql_t, cop_eql_f, cop_neq_t, cop_neq_f, Bool.not_eq_true, Bool.not_eq_false, Bool.not_eq_true', Bool.not_eq_false', Bool.and_eq_true, Bool.or_eq_true, decide_eq_true_eq, decide_eq_false_iff_not, Bool.false_eq_true, Bool.true_eq_false, Option.bind_some, Option.some.injEq, false_iff, true_iff, iff_false, iff_true] at *; rw [if_pos (by omega), if_pos (by omega)]; done)
          | (simp only [cop_lss_t, cop_lss_f, cop_leq_t, cop_leq_f, cop_gtr_t, cop_gtr_f, cop_geq_t, cop_geq_f, cop_eql_t, cop_eql_f, cop_neq_t, cop_neq_f, Bool.not_eq_true, Bool.not_eq_false, Bool.not_eq_true', Bool.not_eq_false', Bool.and_eq_true, Bool.or_eq_true, decide_eq_true_eq, decide_eq_false_iff_not, Bool.false_eq_true, Bool.true_eq_false, Option.bind_some, Option.some.injEq, false_iff, true_iff, iff_false, iff_true] at *; rw [if_neg (by omega), if_neg (by omega)]; done)
          | (exfalso; simp only [cop_lss_t, cop_lss_f, cop_leq_t, cop_leq_f, cop_gtr_t, cop_gtr_f, cop_geq_t, cop_geq_f, cop_eql_t, cop_eql_f, cop_neq_t, cop_neq_f, Bool.not_eq_true, Bool.not_eq_false, Bool.not_eq_true', Bool.not_eq_false', Bool.and_eq_true, Bool.or_eq_true, decide_eq_true_eq, decide_eq_false_iff_not, Bool.false_eq_true, Bool.true_eq_false, Option.bind_some, Option.some.injEq, false_iff, true_iff, iff_false, iff_true] at *; first | omega | grind)
  · repeat' (with_reducible refine ite_goal (fun _ => ?_) (fun _ => ?_))
    all_goals first
      | exact ret_bad (by decide) (by simp only [cop_lss_t, cop_lss_f, cop_leq_t, cop_leq_f, cop_gtr_t, cop_gtr_f, cop_geq_t, cop_geq_f, cop_eql_t, cop_eql_f, cop_neq_t, cop_neq_f, Bool.not_eq_true, Bool.not_eq_false, Bool.not_eq_true', Bool.not_eq_false', Bool.and_eq_true, Bool.or_eq_true, decide_eq_true_eq, decide_eq_false_iff_not, Bool.false_eq_true, Bool.true_eq_false, Option.bind_some, Option.some.injEq, false_iff, true_iff, iff_false, iff_true] at *; simp only [retErr]; grind)
      | (exfalso; simp only [cop_lss_t, cop_lss_f, cop_leq_t, cop_leq_f, cop_gtr_t, cop_gtr_f, cop_geq_t, cop_geq_f, cop_eql_t, cop_eql_f, cop_neq_t, cop_neq_f, Bool.not_eq_true, Bool.not_eq_false, Bool.not_eq_true', Bool.not_eq_false', Bool.and_eq_true, Bool.or_eq_true, decide_eq_true_eq, decide_eq_false_iff_not, Bool.false_eq_true, Bool.true_eq_false, Option.bind_some, Option.some.injEq, false_iff, true_iff, iff_false, iff_true] at *; grind)

theorem s21 (k b s r w l : Int) (d : Bool) (obj bits level width off cnt : Int) : g21 k b s r w l d obj bits level width off cnt =
    some (retCells ⟨k, b, s, r, w, l, d⟩ obj bits level width off cnt, retErr ⟨k, b, s, r, w, l, d⟩ obj bits level width off cnt) := by
  rw [g21_eq]
  simp only [s33, s69, s70, Option.bind_some]
  by_cases hh : capOk ⟨k, b, s, r, w, l, d⟩ = true ∧ k = 1 ∧ iop .and .i64 r 2 ≠ 0 ∧ sizeOk obj bits = true ∧ (obj = 3 → formOk width level = true) ∧ 1 ≤ cnt ∧ cnt ≤ 8 ∧ 0 ≤ off
  · obtain ⟨h1, rfl, h3, h4, h5, h6, h7, h8⟩ := hh
    obtain ⟨n1, n2, n3, n4, n5, n6, n7, n8, n9, n10, n11, n12, n13, n14, n15, n16⟩ := ret_nums h1 h4 h6 h7 h8
    have q1 : (reqK ((0 : Int) ≤ bits) : Option (List (List AV) × Int) → _) = fun x => x := reqK_id n7
    have q2 : (reqK ((2 : Int) ^ bits.toNat ≠ 0) : Option (List (List AV) × Int) → _) = fun x => x := reqK_id n6
    have hw1 : IntKind.wrap .u64 bits = bits := wrapu_of n7 (by omega)
    have hw2 : IntKind.wrap .u64 s = s := wrapu_of n8 (by simp only at n16; omega)
    have q3 : (reqK ((0 : Int) ≤ s) : Option (List (List AV) × Int) → _) = fun x => x := reqK_id n8
    simp only at n3 n5
    have loop : ∀ fl : Bool, off + cnt * 2 ^ bits.toNat ≤ 2 ^ s.toNat → g21L0 FUEL obj bits level width off cnt 1 b s r w l d fl (2 ^ bits.toNat) [] 0 = some (newCells obj (b + off) (2 ^ bits.toNat) bits r (if fl = true then width else 0) (if fl = true then level else 0) d cnt.toNat, 0) := by
      intro fl hle
      have := l21 (fl := fl) (k := 1) (s := s) (r := r) (w := w) (l := l) (d := d) (lv := level) (wd := width) (bits := bits) (obj := obj) (cnt := cnt) n9 h8 (Int.le_of_lt n11) h7 (show b + off + 8 * 2 ^ bits.toNat < 2 ^ 62 by
        have e62 : (2 : Int) ^ 62 = 4611686018427387904 := by decide
        simp only at n10
        omega) cnt.toNat 0 FUEL (by omega) (fuel_lt (by omega))
      exact this
    have n9' : 0 ≤ b := n9
    have n10' : b + 2 ^ s.toNat ≤ 1099511627776 := n10
    have n5' : off ≤ 2 ^ s.toNat → iop .sub .i64 (2 ^ s.toNat) off = 2 ^ s.toNat - off := fun h => sub_i (by omega) (by omega)
    have hR : retErr ⟨1, b, s, r, w, l, d⟩ obj bits level width off cnt = if d = true ∧ obj ≠ 1 ∧ obj ≠ 2 then 5 else if off % 2 ^ bits.toNat ≠ 0 ∨ 2 ^ s.toNat - cnt * 2 ^ bits.toNat < off ∨ (obj = 1 ∧ s ≤ bits) then 6 else 0 := by
      rw [retErr, if_neg (by simp [h1]), if_neg h3, if_neg (by
        rintro (h | ⟨h, h'⟩ | h | h | h)
        · rw [h4] at h; cases h
        · rw [h5 h] at h'; cases h'
        · omega
        · omega
        · omega)]
    have hk1 : cop .neq (1 : Int) 1 = false := rfl
    simp only [hw1, hw2, n1, n2, n3, n4, q1, q2, q3, h1, h4, hk1, Bool.not_true, Bool.false_eq_true, if_false]
    clear n1 n2 n3 n4 n5 q1 q2 q3
    by_cases e5 : d = true ∧ obj ≠ 1 ∧ obj ≠ 2
    · rw [if_pos e5] at hR
      obtain ⟨hd, e1, e2⟩ := e5
      repeat' (with_reducible refine ite_goal (fun _ => ?_) (fun _ => ?_))
      all_goals first
        | exact ret_bad (by decide) hR
        | (exfalso; simp only [cop_lss_t, cop_lss_f, cop_leq_t, cop_leq_f, cop_gtr_t, cop_gtr_f, cop_geq_t, cop_geq_f, cop_eql_t, cop_eql_f, cop_neq_t, cop_neq_f, Bool.not_eq_true, Bool.not_eq_false, Bool.not_eq_true', Bool.not_eq_false', Bool.and_eq_true, Bool.or_eq_true, decide_eq_true_eq, decide_eq_false_iff_not, Bool.false_eq_true, Bool.true_eq_false, Option.bind_some, Option.some.injEq, false_iff, true_iff, iff_false, iff_true] at *; first | omega | grind)
    · rw [if_neg e5] at hR
      by_cases e6 : off % 2 ^ bits.toNat ≠ 0 ∨ 2 ^ s.toNat - cnt * 2 ^ bits.toNat < off ∨ (obj = 1 ∧ s ≤ bits)
      · rw [if_pos e6] at hR
        repeat' (with_reducible refine ite_goal (fun _ => ?_) (fun _ => ?_))
        all_goals first
          | exact ret_bad (by decide) hR
          | (exfalso; simp only [cop_lss_t, cop_lss_f, cop_leq_t, cop_leq_f, cop_gtr_t, cop_gtr_f, cop_geq_t, cop_geq_f, cop_eql_t, cop_eql_f, cop_neq_t, cop_neq_f, Bool.not_eq_true, Bool.not_eq_false, Bool.not_eq_true', Bool.not_eq_false', Bool.and_eq_true, Bool.or_eq_true, decide_eq_true_eq, decide_eq_false_iff_not, Bool.false_eq_true, Bool.true_eq_false, Option.bind_some, Option.some.injEq, false_iff, true_iff, iff_false, iff_true] at *; rw [n5' (by omega)] at *; first | omega | grind)
          | (exfalso; simp only [cop_lss_t, cop_lss_f, cop_leq_t, cop_leq_f, cop_gtr_t, cop_gtr_f, cop_geq_t, cop_geq_f, cop_eql_t, cop_eql_f, cop_neq_t, cop_neq_f, Bool.not_eq_true, Bool.not_eq_false, Bool.not_eq_true', Bool.not_eq_false', Bool.and_eq_true, Bool.or_eq_true, decide_eq_true_eq, decide_eq_false_iff_not, Bool.false_eq_true, Bool.true_eq_false, Option.bind_some, Option.some.injEq, false_iff, true_iff, iff_false, iff_true] at *; first | omega | grind)
      · rw [if_neg e6] at hR
        have hL : ∀ fl, g21L0 FUEL obj bits level width off cnt 1 b s r w l d fl (2 ^ bits.toNat) [] 0 = some (newCells obj (b + off) (2 ^ bits.toNat) bits r (if fl = true then width else 0) (if fl = true then level else 0) d cnt.toNat, 0) := fun fl => loop fl (by omega)
        have n5 := n5' (by omega)
        simp only [hL, retCells, hR, if_true, n5]
        have hfl : (cop .eql obj 3 = true) = (obj = 3) := by simp only [cop_lss_t, cop_lss_f, cop_leq_t, cop_leq_f, cop_gtr_t, cop_gtr_f, cop_geq_t, cop_geq_f, cop_eql_t, cop_eql_f, cop_neq_t, cop_neq_f, Bool.not_eq_true, Bool.not_eq_false, Bool.not_eq_true', Bool.not_eq_false', Bool.and_eq_true, Bool.or_eq_true, decide_eq_true_eq, decide_eq_false_iff_not, Bool.false_eq_true, Bool.true_eq_false, Option.bind_some, Option.some.injEq, false_iff, true_iff, iff_false, iff_true]
        simp only [hfl]
        repeat' (with_reducible refine ite_goal (fun _ => ?_) (fun _ => ?_))
        all_goals first
          | rfl
          | (exfalso; simp only [cop_lss_t, cop_lss_f, cop_leq_t, cop_leq_f, cop_gtr_t, cop_gtr_f, cop_geq_t, cop_geq_f, cop_eql_t, cop_eql_f, cop_neq_t, cop_neq_f, Bool.not_eq_true, Bool.not_eq_false, Bool.not_eq_true', Bool.not_eq_false', Bool.and_eq_true, Bool.or_eq_true, decide_eq_true_eq, decide_eq_false_iff_not, Bool.false_eq_true, Bool.true_eq_false, Option.bind_some, Option.some.injEq, false_iff, true_iff, iff_false, iff_true] at *; first | omega | grind)
  · repeat' (with_reducible refine ite_goal (fun _ => ?_) (fun _ => ?_))
    all_goals first
      | exact ret_bad (by decide) (by simp only [cop_lss_t, cop_lss_f, cop_leq_t, cop_leq_f, cop_gtr_t, cop_gtr_f, cop_geq_t, cop_geq_f, cop_eql_t, cop_eql_f, cop_neq_t, cop_neq_f, Bool.not_eq_true, Bool.not_eq_false, Bool.not_eq_true', Bool.not_eq_false', Bool.and_eq_true, Bool.or_eq_true, decide_eq_true_eq, decide_eq_false_iff_not, Bool.false_eq_true, Bool.true_eq_false, Option.bind_some, Option.some.injEq, false_iff, true_iff, iff_false, iff_true] at *; simp only [retErr]; grind)
      | (exfalso; simp only [cop_lss_t, cop_lss_f, cop_leq_t, cop_leq_f, cop_gtr_t, cop_gtr_f, cop_geq_t, cop_geq_f, cop_eql_t, cop_eql_f, cop_neq_t, cop_neq_f, Bool.not_eq_true, Bool.not_eq_false, Bool.not_eq_true', Bool.not_eq_false', Bool.and_eq_true, Bool.or_eq_true, decide_eq_true_eq, decide_eq_false_iff_not, Bool.false_eq_true, Bool.true_eq_false, Option.bind_some, Option.some.injEq, false_iff, true_iff, iff_false, iff_true] at *; grind)

end Go.Proofs.Ytjfhdhplmibnfaa
