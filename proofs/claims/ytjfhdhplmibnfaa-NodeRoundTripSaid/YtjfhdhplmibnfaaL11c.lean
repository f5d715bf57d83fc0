/- The laws of capabilities that rest on Retype. -/
import Derived.Test.YtjfhdhplmibnfaaL11b
namespace Go.Proofs.Ytjfhdhplmibnfaa
open Go Go.AM
set_option linter.unusedSimpArgs false
set_option linter.unusedVariables false

abbrev capSh : List Sh := [.int .i64, .int .i64, .int .i64, .int .i64, .int .i64, .int .i64, .bool]

/-- The element i of what Retype made. -/
theorem elem_new {γ : Type} {obj a sz bits r w l : Int} {d : Bool} {n : Nat} {i : Int} (k : (Int × Int × Int × Int × Int × Int × Bool) → Option γ) (h0 : 0 ≤ i) (h1 : i.toNat < n) :
    elemK (newCells obj a sz bits r w l d n) i capSh k = k (obj, a + i * sz, bits, r, w, l, d) := by
  have hi : ((i.toNat : Nat) : Int) = i := by omega
  refine elemK_at (sh := capSh) k h0 (newCells_at obj a sz bits r w l d n i.toNat h1) (r := (obj, a + i * sz, bits, r, w, l, d)) ?_
  simp only [newCell, hi]
  rfl

theorem s23 : g23 = some true := by
  rw [g23_eq, s20]
  have he : retErr ⟨1, 0, 14, 7, 0, 0, false⟩ 3 12 0 32 4096 2 = 0 := by decide
  have hc : retCells ⟨1, 0, 14, 7, 0, 0, false⟩ 3 12 0 32 4096 2 = newCells 3 4096 4096 12 7 32 0 false 2 := by
    simp only [retCells, he, if_true]
    rfl
  simp only [he, hc, Option.bind_some, newCells_len]
  rw [if_pos (by decide), if_pos (by decide), elem_new _ (by decide) (by decide), if_pos (by decide), elem_new _ (by decide) (by decide), if_pos (by decide), elem_new _ (by decide) (by decide), s28]
  decide

theorem l22 {xs : List (List AV)} (hl : xs.length < 2 ^ 62) (hx : ∀ x ∈ xs, ∃ r, ofEs capSh x = some r) : ∀ (j i fuel : Nat), xs.length = i + j → j < fuel → g22L0 fuel xs xs i = some true := by
  intro j
  induction j with
  | zero =>
    intro i fuel h hf
    obtain ⟨f, rfl⟩ : ∃ f, fuel = f + 1 := ⟨fuel - 1, by omega⟩
    rw [g22L0_eq, if_neg (by simp only [cop_lss_t, cop_lss_f, cop_leq_t, cop_leq_f, cop_gtr_t, cop_gtr_f, cop_geq_t, cop_geq_f, cop_eql_t, cop_eql_f, cop_neq_t, cop_neq_f, Bool.not_eq_true, Bool.not_eq_false, Bool.not_eq_true', Bool.not_eq_false', Bool.and_eq_true, Bool.or_eq_true, decide_eq_true_eq, decide_eq_false_iff_not, Bool.false_eq_true, Bool.true_eq_false, Option.bind_some, Option.some.injEq, false_iff, true_iff, iff_false, iff_true]; omega)]
  | succ j ih =>
    intro i fuel h hf
    obtain ⟨f, rfl⟩ : ∃ f, fuel = f + 1 := ⟨fuel - 1, by omega⟩
    have hi : i < xs.length := by omega
    obtain ⟨r, hr⟩ := hx xs[i] (List.getElem_mem hi)
    have hat : xs[(i : Int).toNat]? = some xs[i] := by simp
    have a4 : iop .add .i64 i 1 = ((i + 1 : Nat) : Int) := by rw [add_i (by omega) (by omega)]; omega
    rw [g22L0_eq, if_pos (by simp only [cop_lss_t, cop_lss_f, cop_leq_t, cop_leq_f, cop_gtr_t, cop_gtr_f, cop_geq_t, cop_geq_f, cop_eql_t, cop_eql_f, cop_neq_t, cop_neq_f, Bool.not_eq_true, Bool.not_eq_false, Bool.not_eq_true', Bool.not_eq_false', Bool.and_eq_true, Bool.or_eq_true, decide_eq_true_eq, decide_eq_false_iff_not, Bool.false_eq_true, Bool.true_eq_false, Option.bind_some, Option.some.injEq, false_iff, true_iff, iff_false, iff_true]; omega), elemK_at _ (by omega) hat hr, elemK_at _ (by omega) hat hr, if_neg (by simp [cop]), a4]
    exact ih (i + 1) f (by omega) (by omega)

theorem s22 {xs : List (List AV)} (hl : xs.length < 2 ^ 62) (hx : ∀ x ∈ xs, ∃ r, ofEs capSh x = some r) : g22 xs xs = some true := by
  rw [g22_eq, if_neg (by simp [cop])]
  exact l22 hl hx xs.length 0 FUEL (by omega) (fuel_lt (by omega))

theorem ofEs_new (obj a sz bits r w l : Int) (d : Bool) (j : Nat) : ofEs capSh (newCell obj a sz bits r w l d j) = some (obj, a + j * sz, bits, r, w, l, d) := rfl

theorem ofEs_newCells {obj a sz bits r w l : Int} {d : Bool} {n : Nat} {x : List AV} (h : x ∈ newCells obj a sz bits r w l d n) : ∃ r, ofEs capSh x = some r := by
  obtain ⟨j, _, rfl⟩ := List.mem_map.1 h
  exact ⟨_, ofEs_new ..⟩

theorem ret_good {c : Cap} {obj bits level width off cnt : Int} (h : retErr c obj bits level width off cnt = 0) :
    capOk c = true ∧ c.kind = 1 ∧ iop .and .i64 c.rights 2 ≠ 0 ∧ sizeOk obj bits = true ∧ (obj = 3 → formOk width level = true) ∧ 1 ≤ cnt ∧ cnt ≤ 8 ∧ 0 ≤ off ∧ (c.device = true → obj = 1 ∨ obj = 2) ∧
      off % 2 ^ bits.toNat = 0 ∧ off ≤ 2 ^ c.bits.toNat - cnt * 2 ^ bits.toNat ∧ (obj = 1 → bits < c.bits) := by
  unfold retErr at h
  split at h
  · cases h
  split at h
  · cases h
  split at h
  · cases h
  split at h
  · cases h
  split at h
  · cases h
  rename_i h1 h2 h3 h4 h5
  refine ⟨?_, ?_, h2, ?_, ?_, ?_, ?_, ?_, ?_, ?_, ?_, ?_⟩ <;> grind

theorem ret_cells {c : Cap} {obj bits level width off cnt : Int} : ∃ a r w l d n, n < 2 ^ 30 ∧ retCells c obj bits level width off cnt = newCells obj a (2 ^ bits.toNat) bits r w l d n := by
  by_cases h : retErr c obj bits level width off cnt = 0
  · obtain ⟨_, _, _, _, _, _, h7, _⟩ := ret_good h
    simp only [retCells, h, if_true]
    exact ⟨_, _, _, _, _, cnt.toNat, by omega, rfl⟩
  · simp only [retCells, if_neg h]
    exact ⟨0, 0, 0, 0, false, 0, by omega, rfl⟩

theorem s3 (k b s r w l : Int) (d : Bool) (obj bits level width off cnt : Int) : g3 k b s r w l d obj bits level width off cnt = some true := by
  rw [g3_eq, s20, s21]
  obtain ⟨a, r', w', l', d', n, hn, hc⟩ := ret_cells (c := ⟨k, b, s, r, w, l, d⟩) (obj := obj) (bits := bits) (level := level) (width := width) (off := off) (cnt := cnt)
  simp only [Option.bind_some, hc]
  rw [s22 (by rw [newCells_len]; omega) (fun x hx => ofEs_newCells hx)]
  simp only [Option.bind_some]
  rw [if_pos trivial, if_pos (by simp [cop]), s23]
  rfl

theorem shl_i {a b : Int} (h0 : 0 ≤ b) (h1 : b ≤ 62) (h2 : 0 ≤ a) (h3 : a * 2 ^ b.toNat < 2 ^ 63) : iop .shl .i64 a b = a * 2 ^ b.toNat := by
  have hmin : min b.toNat IntKind.i64.bits = b.toNat := by
    have : IntKind.i64.bits = 64 := rfl
    omega
  simp only [iop, hmin]
  have hp := pow_pos2 b.toNat
  have : 0 ≤ a * 2 ^ b.toNat := Int.mul_nonneg h2 (by omega)
  rw [wrap_of (by omega) h3]

/-- One by one, Retype makes what it makes at once. -/
theorem ret_one {c : Cap} {obj bits level width off cnt : Int} (h : retErr c obj bits level width off cnt = 0) {i : Nat} (hi : (i : Int) < cnt) : retErr c obj bits level width (off + i * 2 ^ bits.toNat) 1 = 0 := by
  obtain ⟨h1, h2, h3, h4, h5, h6, h7, h8, h9, h10, h11, h12⟩ := ret_good h
  have hp := pow_pos2 bits.toNat
  have m0 : 0 ≤ (i : Int) * 2 ^ bits.toNat := Int.mul_nonneg (by omega) (by omega)
  have m1 : ((i : Int) + 1) * 2 ^ bits.toNat ≤ cnt * 2 ^ bits.toNat := Int.mul_le_mul_of_nonneg_right (by omega) (by omega)
  have m2 : ((i : Int) + 1) * 2 ^ bits.toNat = i * 2 ^ bits.toNat + 2 ^ bits.toNat := by rw [Int.add_mul, Int.one_mul]
  have hmod : (off + i * 2 ^ bits.toNat) % 2 ^ bits.toNat = 0 := by rw [Int.add_mul_emod_self_right]; exact h10
  rw [retErr, if_neg (by simp [h1, h2]), if_neg h3, if_neg (by
    rintro (h | ⟨h, h'⟩ | h | h | h)
    · rw [h4] at h; cases h
    · rw [h5 h] at h'; cases h'
    · omega
    · omega
    · omega), if_neg (by rintro ⟨h, h', h''⟩; rcases h9 h with h | h <;> omega), if_neg (by
    rintro (h | h | ⟨h, h'⟩)
    · exact h hmod
    · omega
    · have := h12 h; omega)]

theorem l4 {k b s r w l : Int} {d : Bool} {obj bits level width off cnt : Int} (h : retErr ⟨k, b, s, r, w, l, d⟩ obj bits level width off cnt = 0) : ∀ (j i fuel : Nat), cnt = i + j → j < fuel →
    g4L0 fuel obj bits level width off cnt k b s r w l d (retCells ⟨k, b, s, r, w, l, d⟩ obj bits level width off cnt) i = some true := by
  obtain ⟨h1, h2, h3, h4, h5, h6, h7, h8, h9, h10, h11, h12⟩ := ret_good h
  obtain ⟨n1, n2, n3, n4, n5, n6, n7, n8, n9, n10, n11, n12, n13, n14, n15, n16⟩ := ret_nums h1 h4 h6 h7 h8
  have n9' : 0 ≤ b := n9
  have n10' : b + 2 ^ s.toNat ≤ 1099511627776 := n10
  have h11' : off ≤ 2 ^ s.toNat - cnt * 2 ^ bits.toNat := h11
  have hcells : retCells ⟨k, b, s, r, w, l, d⟩ obj bits level width off cnt = newCells obj (b + off) (2 ^ bits.toNat) bits r (if obj = 3 then width else 0) (if obj = 3 then level else 0) d cnt.toNat := by simp only [retCells, h, if_true]
  intro j
  induction j with
  | zero =>
    intro i fuel hi hf
    obtain ⟨f, rfl⟩ : ∃ f, fuel = f + 1 := ⟨fuel - 1, by omega⟩
    have he : retErr ⟨k, b, s, r, w, l, d⟩ obj bits level width off 0 = 1 := by
      rw [retErr, if_neg (by simp only [h1, Bool.true_eq_false, false_or]; exact fun hn => hn h2), if_neg h3, if_pos (.inr (.inr (.inl (by omega))))]
    rw [g4L0_eq, if_neg (by simp only [cop_lss_t, cop_lss_f, cop_leq_t, cop_leq_f, cop_gtr_t, cop_gtr_f, cop_geq_t, cop_geq_f, cop_eql_t, cop_eql_f, cop_neq_t, cop_neq_f, Bool.not_eq_true, Bool.not_eq_false, Bool.not_eq_true', Bool.not_eq_false', Bool.and_eq_true, Bool.or_eq_true, decide_eq_true_eq, decide_eq_false_iff_not, Bool.false_eq_true, Bool.true_eq_false, Option.bind_some, Option.some.injEq, false_iff, true_iff, iff_false, iff_true, hcells, newCells_len]; omega), s20]
    simp only [Option.bind_some, he, hcells, newCells_len]
    rw [if_pos (by simp only [cop_lss_t, cop_lss_f, cop_leq_t, cop_leq_f, cop_gtr_t, cop_gtr_f, cop_geq_t, cop_geq_f, cop_eql_t, cop_eql_f, cop_neq_t, cop_neq_f, Bool.not_eq_true, Bool.not_eq_false, Bool.not_eq_true', Bool.not_eq_false', Bool.and_eq_true, Bool.or_eq_true, decide_eq_true_eq, decide_eq_false_iff_not, Bool.false_eq_true, Bool.true_eq_false, Option.bind_some, Option.some.injEq, false_iff, true_iff, iff_false, iff_true]; omega), if_pos (by decide), s23]
    rfl
  | succ j ih =>
    intro i fuel hi hf
    obtain ⟨f, rfl⟩ : ∃ f, fuel = f + 1 := ⟨fuel - 1, by omega⟩
    have hp := pow_pos2 bits.toNat
    have m0 : 0 ≤ (i : Int) * 2 ^ bits.toNat := Int.mul_nonneg (by omega) (by omega)
    have m1 : ((i : Int)) * 2 ^ bits.toNat ≤ cnt * 2 ^ bits.toNat := Int.mul_le_mul_of_nonneg_right (by omega) (by omega)
    have e63 : (2 : Int) ^ 63 = 9223372036854775808 := by decide
    have a1 : IntKind.wrap .u64 bits = bits := wrapu_of n7 (by omega)
    have a2 : iop .shl .i64 i bits = i * 2 ^ bits.toNat := shl_i n7 (by omega) (by omega) (by omega)
    have a3 : iop .add .i64 off (i * 2 ^ bits.toNat) = off + i * 2 ^ bits.toNat := add_i (by omega) (by omega)
    have a4 : iop .add .i64 i 1 = ((i + 1 : Nat) : Int) := by rw [add_i (by omega) (by omega)]; omega
    have he := ret_one h (i := i) (by omega)
    have hone : retCells ⟨k, b, s, r, w, l, d⟩ obj bits level width (off + i * 2 ^ bits.toNat) 1 = newCells obj (b + (off + i * 2 ^ bits.toNat)) (2 ^ bits.toNat) bits r (if obj = 3 then width else 0) (if obj = 3 then level else 0) d 1 := by
      simp only [retCells, he, if_true]
      rfl
    rw [g4L0_eq, if_pos (by simp only [cop_lss_t, cop_lss_f, cop_leq_t, cop_leq_f, cop_gtr_t, cop_gtr_f, cop_geq_t, cop_geq_f, cop_eql_t, cop_eql_f, cop_neq_t, cop_neq_f, Bool.not_eq_true, Bool.not_eq_false, Bool.not_eq_true', Bool.not_eq_false', Bool.and_eq_true, Bool.or_eq_true, decide_eq_true_eq, decide_eq_false_iff_not, Bool.false_eq_true, Bool.true_eq_false, Option.bind_some, Option.some.injEq, false_iff, true_iff, iff_false, iff_true, hcells, newCells_len]; omega), a1, reqK_pos n7, a2, a3, s20, a4]
    simp only [Option.bind_some, he, hone, newCells_len]
    rw [if_neg (by decide), if_neg (by decide), elem_new _ (by decide) (by decide), hcells, elem_new _ (by omega) (by omega), if_neg (by simp [cop]; omega)]
    have := ih (i + 1) f (by omega) (by omega)
    rw [hcells] at this
    exact this

theorem s4 (k b s r w l : Int) (d : Bool) (obj bits level width off cnt : Int) : g4 k b s r w l d obj bits level width off cnt = some true := by
  rw [g4_eq, s20]
  simp only [Option.bind_some]
  by_cases h : retErr ⟨k, b, s, r, w, l, d⟩ obj bits level width off cnt = 0
  · rw [if_neg (by simp only [cop_lss_t, cop_lss_f, cop_leq_t, cop_leq_f, cop_gtr_t, cop_gtr_f, cop_geq_t, cop_geq_f, cop_eql_t, cop_eql_f, cop_neq_t, cop_neq_f, Bool.not_eq_true, Bool.not_eq_false, Bool.not_eq_true', Bool.not_eq_false', Bool.and_eq_true, Bool.or_eq_true, decide_eq_true_eq, decide_eq_false_iff_not, Bool.false_eq_true, Bool.true_eq_false, Option.bind_some, Option.some.injEq, false_iff, true_iff, iff_false, iff_true, h]; decide)]
    obtain ⟨h1, h2, h3, h4, h5, h6, h7, h8, h9, h10, h11, h12⟩ := ret_good h
    exact l4 h cnt.toNat 0 FUEL (by omega) (fuel_lt (by omega))
  · rw [if_pos (by simp only [cop_lss_t, cop_lss_f, cop_leq_t, cop_leq_f, cop_gtr_t, cop_gtr_f, cop_geq_t, cop_geq_f, cop_eql_t, cop_eql_f, cop_neq_t, cop_neq_f, Bool.not_eq_true, Bool.not_eq_false, Bool.not_eq_true', Bool.not_eq_false', Bool.and_eq_true, Bool.or_eq_true, decide_eq_true_eq, decide_eq_false_iff_not, Bool.false_eq_true, Bool.true_eq_false, Option.bind_some, Option.some.injEq, false_iff, true_iff, iff_false, iff_true]; exact h)]
    simp only [retCells, if_neg h]
    rw [if_pos (by decide), s23]
    rfl

/-- multikernelmake.Place -/
theorem s24 (x n : Int) (h1 : 1 ≤ n) (h2 : n < 2 ^ 62) : g24 x n = some (x % n) := by
  have e62 : (2 : Int) ^ 62 = 4611686018427387904 := by decide
  have hm0 := Int.emod_nonneg x (show n ≠ 0 by omega)
  have hm1 := Int.emod_lt_of_pos x (show 0 < n by omega)
  have ht : iop .rem .i64 x n = x.tmod n := rfl
  rw [g24_eq, if_neg (by simp only [cop_lss_t, cop_lss_f, cop_leq_t, cop_leq_f, cop_gtr_t, cop_gtr_f, cop_geq_t, cop_geq_f, cop_eql_t, cop_eql_f, cop_neq_t, cop_neq_f, Bool.not_eq_true, Bool.not_eq_false, Bool.not_eq_true', Bool.not_eq_false', Bool.and_eq_true, Bool.or_eq_true, decide_eq_true_eq, decide_eq_false_iff_not, Bool.false_eq_true, Bool.true_eq_false, Option.bind_some, Option.some.injEq, false_iff, true_iff, iff_false, iff_true]; omega), reqK_pos (by omega), ht]
  have := Int.tmod_eq_emod (a := x) (b := n)
  by_cases hd : 0 ≤ x ∨ n ∣ x
  · rw [if_pos hd] at this
    rw [if_neg (by simp only [cop_lss_t, cop_lss_f, cop_leq_t, cop_leq_f, cop_gtr_t, cop_gtr_f, cop_geq_t, cop_geq_f, cop_eql_t, cop_eql_f, cop_neq_t, cop_neq_f, Bool.not_eq_true, Bool.not_eq_false, Bool.not_eq_true', Bool.not_eq_false', Bool.and_eq_true, Bool.or_eq_true, decide_eq_true_eq, decide_eq_false_iff_not, Bool.false_eq_true, Bool.true_eq_false, Option.bind_some, Option.some.injEq, false_iff, true_iff, iff_false, iff_true]; omega)]
    congr 1
    omega
  · rw [if_neg hd] at this
    have habs : ((n.natAbs : Nat) : Int) = n := by omega
    have hne : x % n ≠ 0 := fun h => hd (.inr (Int.dvd_of_emod_eq_zero h))
    rw [if_pos (by simp only [cop_lss_t, cop_lss_f, cop_leq_t, cop_leq_f, cop_gtr_t, cop_gtr_f, cop_geq_t, cop_geq_f, cop_eql_t, cop_eql_f, cop_neq_t, cop_neq_f, Bool.not_eq_true, Bool.not_eq_false, Bool.not_eq_true', Bool.not_eq_false', Bool.and_eq_true, Bool.or_eq_true, decide_eq_true_eq, decide_eq_false_iff_not, Bool.false_eq_true, Bool.true_eq_false, Option.bind_some, Option.some.injEq, false_iff, true_iff, iff_false, iff_true]; omega), add_i (by omega) (by omega)]
    congr 1
    omega

end Go.Proofs.Ytjfhdhplmibnfaa
