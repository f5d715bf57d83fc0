/- The places of what Retype makes. -/
import Derived.Test.YtjfhdhplmibnfaaL11d
namespace Go.Proofs.Ytjfhdhplmibnfaa
open Go Go.AM
set_option linter.unusedSimpArgs false
set_option linter.unusedVariables false

theorem pow_dvd2 {a b : Nat} (h : a ≤ b) : (2 : Int) ^ a ∣ 2 ^ b := ⟨2 ^ (b - a), by rw [← Int.pow_add]; congr 1; omega⟩

theorem pow_le_inv {a b : Nat} (h : (2 : Int) ^ a ≤ 2 ^ b) : a ≤ b := by
  rcases Nat.lt_or_ge b a with hlt | hge
  · have h1 := pow_le2 (m := b + 1) (n := a) hlt
    have h2 : (2 : Int) ^ (b + 1) = 2 ^ b * 2 := Int.pow_succ ..
    have h3 := pow_pos2 b
    omega
  · exact hge

/-- What Retype makes: each is valid, and lies in the source. -/
theorem ret_places {c : Cap} {obj bits level width off cnt : Int} (h : retErr c obj bits level width off cnt = 0) {i : Nat} (hi : (i : Int) < cnt) :
    rngOk (c.base + off + i * 2 ^ bits.toNat) bits = true ∧ capOk ⟨obj, c.base + off + i * 2 ^ bits.toNat, bits, c.rights, if obj = 3 then width else 0, if obj = 3 then level else 0, c.device⟩ = true ∧
      inB c.base c.bits (c.base + off + i * 2 ^ bits.toNat) bits = true ∧ rngEnd (c.base + off + i * 2 ^ bits.toNat) bits = c.base + off + (i + 1) * 2 ^ bits.toNat ∧ rngOk c.base c.bits = true := by
  obtain ⟨h1, h2, h3, h4, h5, h6, h7, h8, h9, h10, h11, h12⟩ := ret_good h
  obtain ⟨r1, r2, r3, r4, r5⟩ := rngOk_of (cap_rng h1)
  obtain ⟨b1, b2⟩ := size_rng h4
  have hp := pow_pos2 bits.toNat
  have m0 : 0 ≤ (i : Int) * 2 ^ bits.toNat := Int.mul_nonneg (by omega) (by omega)
  have m1 : ((i : Int) + 1) * 2 ^ bits.toNat ≤ cnt * 2 ^ bits.toNat := Int.mul_le_mul_of_nonneg_right (by omega) (by omega)
  have m2 : ((i : Int) + 1) * 2 ^ bits.toNat = i * 2 ^ bits.toNat + 2 ^ bits.toNat := by rw [Int.add_mul, Int.one_mul]
  have m3 : 1 * 2 ^ bits.toNat ≤ cnt * 2 ^ bits.toNat := Int.mul_le_mul_of_nonneg_right (by omega) (by omega)
  have hle : bits.toNat ≤ c.bits.toNat := pow_le_inv (by omega)
  have hd1 : (2 : Int) ^ bits.toNat ∣ c.base := Int.dvd_trans (pow_dvd2 hle) (Int.dvd_of_emod_eq_zero r4)
  have hd : (2 : Int) ^ bits.toNat ∣ c.base + off + i * 2 ^ bits.toNat := Int.dvd_add (Int.dvd_add hd1 (Int.dvd_of_emod_eq_zero h10)) (Int.dvd_mul_left _ _)
  have hr : rngOk (c.base + off + i * 2 ^ bits.toNat) bits = true := by
    simp only [rngOk, decide_eq_true_eq]
    exact ⟨b1, b2, by omega, Int.emod_eq_zero_of_dvd hd, by omega⟩
  have hend : rngEnd (c.base + off + i * 2 ^ bits.toNat) bits = c.base + off + (i + 1) * 2 ^ bits.toNat := by
    simp only [rngEnd, hr, if_true]
    omega
  have hrc := cap_rng h1
  refine ⟨hr, ?_, ?_, hend, hrc⟩
  · simp only [capOk, hr, h4, Bool.and_true, Bool.true_and, Bool.and_eq_true, decide_eq_true_eq, Bool.or_eq_true, Bool.not_eq_true']
    refine ⟨⟨cap_parts h1, ?_⟩, ?_⟩
    · by_cases h3 : obj = 3
      · simp only [if_pos h3]
        exact h5 h3
      · simp only [if_neg h3]
        decide
    · cases hdv : c.device
      · exact .inl (.inl rfl)
      · rcases h9 hdv with h | h
        · exact .inl (.inr h)
        · exact .inr h
  · simp only [inB, hr, hrc, Bool.true_and, Bool.and_eq_true, decide_eq_true_eq, hend]
    have : rngEnd c.base c.bits = c.base + 2 ^ c.bits.toNat := by simp only [rngEnd, hrc, if_true]
    omega

theorem l7 {c : Cap} {obj bits off cnt : Int} (h : retErr c obj bits 1 39 off cnt = 0) : ∀ (j i fuel : Nat), cnt = i + j → j < fuel →
    g7L0 fuel c.kind c.base c.bits c.rights c.width c.level c.device obj bits cnt off (retCells c obj bits 1 39 off cnt) i = some true := by
  obtain ⟨h1, h2, h3, h4, h5, h6, h7, h8, h9, h10, h11, h12⟩ := ret_good h
  obtain ⟨n1, n2, n3, n4, n5, n6, n7, n8, n9, n10, n11, n12, n13, n14, n15, n16⟩ := ret_nums h1 h4 h6 h7 h8
  have hcells : retCells c obj bits 1 39 off cnt = newCells obj (c.base + off) (2 ^ bits.toNat) bits c.rights (if obj = 3 then 39 else 0) (if obj = 3 then 1 else 0) c.device cnt.toNat := by simp only [retCells, h, if_true]
  intro j
  induction j with
  | zero =>
    intro i fuel hi hf
    obtain ⟨f, rfl⟩ : ∃ f, fuel = f + 1 := ⟨fuel - 1, by omega⟩
    rw [g7L0_eq, if_neg (by simp only [cop_lss_t, cop_lss_f, cop_leq_t, cop_leq_f, cop_gtr_t, cop_gtr_f, cop_geq_t, cop_geq_f, cop_eql_t, cop_eql_f, cop_neq_t, cop_neq_f, Bool.not_eq_true, Bool.not_eq_false, Bool.not_eq_true', Bool.not_eq_false', Bool.and_eq_true, Bool.or_eq_true, decide_eq_true_eq, decide_eq_false_iff_not, Bool.false_eq_true, Bool.true_eq_false, Option.bind_some, Option.some.injEq, false_iff, true_iff, iff_false, iff_true]; omega), s23]
    rfl
  | succ j ih =>
    intro i fuel hi hf
    obtain ⟨f, rfl⟩ : ∃ f, fuel = f + 1 := ⟨fuel - 1, by omega⟩
    have m0 : 0 ≤ (i : Int) * 2 ^ bits.toNat := Int.mul_nonneg (by omega) (by omega)
    have m1 : ((i : Int)) * 2 ^ bits.toNat ≤ cnt * 2 ^ bits.toNat := Int.mul_le_mul_of_nonneg_right (by omega) (by omega)
    have e63 : (2 : Int) ^ 63 = 9223372036854775808 := by decide
    have a1 : IntKind.wrap .u64 bits = bits := wrapu_of n7 (by omega)
    have a2 : iop .shl .i64 i bits = i * 2 ^ bits.toNat := shl_i n7 (by omega) (by omega) (by omega)
    have a3 : iop .add .i64 c.base off = c.base + off := add_i (by omega) (by omega)
    have a5 : iop .add .i64 (c.base + off) (i * 2 ^ bits.toNat) = c.base + off + i * 2 ^ bits.toNat := add_i (by omega) (by omega)
    have a4 : iop .add .i64 i 1 = ((i + 1 : Nat) : Int) := by rw [add_i (by omega) (by omega)]; omega
    obtain ⟨p1, p2, p3, p4, p5⟩ := ret_places h (i := i) (by omega)
    have co1 : coB c ⟨obj, c.base + off + i * 2 ^ bits.toNat, bits, c.rights, if obj = 3 then 39 else 0, if obj = 3 then 1 else 0, c.device⟩ = true := by simp [coB, p3, h2]
    have co2 := co_comm c ⟨obj, c.base + off + i * 2 ^ bits.toNat, bits, c.rights, if obj = 3 then 39 else 0, if obj = 3 then 1 else 0, c.device⟩
    rw [co1] at co2
    have next := ih (i + 1) f (by omega) (by omega)
    rw [hcells] at next ⊢
    rw [g7L0_eq, if_pos (by simp only [cop_lss_t, cop_lss_f, cop_leq_t, cop_leq_f, cop_gtr_t, cop_gtr_f, cop_geq_t, cop_geq_f, cop_eql_t, cop_eql_f, cop_neq_t, cop_neq_f, Bool.not_eq_true, Bool.not_eq_false, Bool.not_eq_true', Bool.not_eq_false', Bool.and_eq_true, Bool.or_eq_true, decide_eq_true_eq, decide_eq_false_iff_not, Bool.false_eq_true, Bool.true_eq_false, Option.bind_some, Option.some.injEq, false_iff, true_iff, iff_false, iff_true]; omega), elem_new _ (by omega) (by omega)]
    simp only [s28, s30, s32, s31, Option.bind_some, p2, a1, a2, a3, a4, a5]
    rw [if_neg (by simp), if_neg (by simp [cop]), if_neg (by simp [cop]), reqK_pos n7, if_neg (by simp [cop]), if_neg (by simp [cop]), co1, if_neg (by simp), ← co2, if_neg (by simp)]
    by_cases hi0 : i = 0
    · subst hi0
      rw [if_neg (by decide)]
      exact next
    · have a6 : iop .sub .i64 i 1 = ((i - 1 : Nat) : Int) := by rw [sub_i (by omega) (by omega)]; omega
      obtain ⟨q1, q2, q3, q4, q5⟩ := ret_places h (i := i - 1) (by omega)
      have hov : overB (c.base + off + ((i - 1 : Nat) : Int) * 2 ^ bits.toNat) bits (c.base + off + i * 2 ^ bits.toNat) bits = false := by
        have : ((i - 1 : Nat) : Int) + 1 = i := by omega
        simp only [overB, q1, p1, q4, this, Bool.true_and, Int.lt_irrefl, decide_false, Bool.and_false]
      rw [if_pos (by simp only [cop_lss_t, cop_lss_f, cop_leq_t, cop_leq_f, cop_gtr_t, cop_gtr_f, cop_geq_t, cop_geq_f, cop_eql_t, cop_eql_f, cop_neq_t, cop_neq_f, Bool.not_eq_true, Bool.not_eq_false, Bool.not_eq_true', Bool.not_eq_false', Bool.and_eq_true, Bool.or_eq_true, decide_eq_true_eq, decide_eq_false_iff_not, Bool.false_eq_true, Bool.true_eq_false, Option.bind_some, Option.some.injEq, false_iff, true_iff, iff_false, iff_true]; omega), a6, elem_new _ (by omega) (by omega)]
      simp only [hov, Bool.false_eq_true, if_false]
      exact next

theorem or_two {r : Int} (h0 : 0 ≤ r) (h1 : r < 8) : 0 ≤ iop .or .i64 r 2 ∧ iop .or .i64 r 2 ≤ 7 ∧ iop .and .i64 (iop .or .i64 r 2) 2 ≠ 0 := by
  rcases (by omega : r = 0 ∨ r = 1 ∨ r = 2 ∨ r = 3 ∨ r = 4 ∨ r = 5 ∨ r = 6 ∨ r = 7) with rfl | rfl | rfl | rfl | rfl | rfl | rfl | rfl <;> decide

/-- multikernelmake.Untyped -/
theorem s29 (x0 x1 : Int) : ∃ b s, 6 ≤ s ∧ s ≤ 16 ∧ rngOk b s = true ∧ g29 x0 x1 = some (1, b, s, 7, 0, 0, false) := by
  obtain ⟨a1, a2⟩ := emod_rng x1 11 (by omega)
  rw [g29_eq, g72_eq, s24 x1 11 (by omega) (by omega), Option.bind_some]
  generalize x1 % 11 = z at *
  have e1 : iop .add .i64 6 z = 6 + z := add_i (by omega) (by omega)
  have e2 : iop .sub .i64 16 (6 + z) = 10 - z := by rw [sub_i (by omega) (by omega)]; omega
  have e3 : IntKind.wrap .u64 (10 - z) = 10 - z := wrapu_of (by omega) (by omega)
  have e4 : IntKind.wrap .u64 (6 + z) = 6 + z := wrapu_of (by omega) (by omega)
  have hp := pow_pos2 (10 - z).toNat
  have hq := pow_pos2 (6 + z).toNat
  have hs : (2 : Int) ^ (10 - z).toNat * 2 ^ (6 + z).toNat = 65536 := by
    rw [← Int.pow_add, show (10 - z).toNat + (6 + z).toNat = 16 by omega]
    decide
  have hle : (2 : Int) ^ (10 - z).toNat ≤ 1024 := by
    have := pow_le2 (m := (10 - z).toNat) (n := 10) (by omega)
    have e : (2 : Int) ^ 10 = 1024 := by decide
    omega
  have e62 : (2 : Int) ^ 62 = 4611686018427387904 := by decide
  have e63 : (2 : Int) ^ 63 = 9223372036854775808 := by decide
  obtain ⟨r1, r2⟩ := emod_rng x0 (2 ^ (10 - z).toNat) (by omega)
  have m1 : (x0 % 2 ^ (10 - z).toNat + 1) * 2 ^ (6 + z).toNat ≤ 2 ^ (10 - z).toNat * 2 ^ (6 + z).toNat := Int.mul_le_mul_of_nonneg_right (by omega) (by omega)
  have m2 : (x0 % 2 ^ (10 - z).toNat + 1) * 2 ^ (6 + z).toNat = x0 % 2 ^ (10 - z).toNat * 2 ^ (6 + z).toNat + 2 ^ (6 + z).toNat := by rw [Int.add_mul, Int.one_mul]
  have m3 : 0 ≤ x0 % 2 ^ (10 - z).toNat * 2 ^ (6 + z).toNat := Int.mul_nonneg r1 (by omega)
  refine ⟨x0 % 2 ^ (10 - z).toNat * 2 ^ (6 + z).toNat, 6 + z, by omega, by omega, ?_, ?_⟩
  · simp only [rngOk, decide_eq_true_eq]
    exact ⟨by omega, by omega, m3, Int.mul_emod_left _ _, by omega⟩
  · rw [e1, e2, e3, e4, shl1 (by omega), reqK_pos (by omega), s24 _ _ (by omega) (by omega), Option.bind_some, reqK_pos (by omega), shl_i (by omega) (by omega) r1 (by omega)]
    rfl

theorem s7 (x0 x1 x2 x3 x4 x5 x6 : Int) : g7 x0 x1 x2 x3 x4 x5 x6 = some true := by
  obtain ⟨b, s, hs1, hs2, hrng, h29⟩ := s29 x0 x1
  obtain ⟨a1, a2⟩ := emod_rng x6 8 (by omega)
  obtain ⟨b1, b2⟩ := emod_rng x2 6 (by omega)
  obtain ⟨c1, c2⟩ := emod_rng x3 11 (by omega)
  obtain ⟨d1, d2⟩ := emod_rng x5 8 (by omega)
  obtain ⟨f1, f2⟩ := emod_rng x4 64 (by omega)
  rw [g7_eq, h29]
  simp only [Option.bind_some]
  rw [s24 x6 8 (by omega) (by omega), Option.bind_some, s24 x2 6 (by omega) (by omega), Option.bind_some, s24 x3 11 (by omega) (by omega), Option.bind_some, s24 x5 8 (by omega) (by omega), s24 x4 64 (by omega) (by omega)]
  simp only [Option.bind_some]
  generalize x6 % 8 = r at *
  generalize x2 % 6 = q at *
  generalize x3 % 11 = z at *
  generalize x5 % 8 = n at *
  generalize x4 % 64 = p at *
  have e1 : iop .add .i64 1 q = 1 + q := add_i (by omega) (by omega)
  have e2 : iop .sub .i64 (1 + q) 1 = q := by rw [sub_i (by omega) (by omega)]; omega
  have e3 : iop .add .i64 6 z = 6 + z := add_i (by omega) (by omega)
  have e4 : iop .add .i64 1 n = 1 + n := add_i (by omega) (by omega)
  obtain ⟨o1, o2, o3⟩ := or_two a1 a2
  generalize iop .or .i64 r 2 = rt at *
  rw [e1, e2, e3, e4]
  -- the size
  obtain ⟨k, hk, hsz⟩ : ∃ k : Int, ((((((([] : List (List AV)) ++ [[AV.val (.int .i64 (6 + z))]]) ++ [[AV.val (.int .i64 12)]]) ++ [[AV.val (.int .i64 12)]]) ++ [[AV.val (.int .i64 6)]]) ++ [[AV.val (.int .i64 10)]]) ++ [[AV.val (.int .i64 16)]])[q.toNat]? = some [I k] ∧ sizeOk (1 + q) k = true := by
    rcases (by omega : q = 0 ∨ q = 1 ∨ q = 2 ∨ q = 3 ∨ q = 4 ∨ q = 5) with rfl | rfl | rfl | rfl | rfl | rfl
    · exact ⟨6 + z, rfl, by simp [sizeOk]; omega⟩
    · exact ⟨12, rfl, by decide⟩
    · exact ⟨12, rfl, by decide⟩
    · exact ⟨6, rfl, by decide⟩
    · exact ⟨10, rfl, by decide⟩
    · exact ⟨16, rfl, by decide⟩
  rw [elemK_at (sh := [.int .i64]) (cs := [I k]) (r := k) _ b1 hk rfl]
  obtain ⟨k1, k2⟩ := size_rng hsz
  have hk16 : k ≤ 16 := by
    simp only [sizeOk, decide_eq_true_eq] at hsz
    rcases (by omega : q = 0 ∨ q = 1 ∨ q = 2 ∨ q = 3 ∨ q = 4 ∨ q = 5) with rfl | rfl | rfl | rfl | rfl | rfl
    · simp at hk; omega
    · simp at hk; omega
    · simp at hk; omega
    · simp at hk; omega
    · simp at hk; omega
    · simp at hk; omega
  have w1 : IntKind.wrap .u64 k = k := wrapu_of (by omega) (by omega)
  have w2 : IntKind.wrap .u64 s = s := wrapu_of (by omega) (by omega)
  have hpk := pow_pos2 k.toNat
  have hps := pow_pos2 s.toNat
  have hk64 : (2 : Int) ^ k.toNat ≤ 65536 := by
    have := pow_le2 (m := k.toNat) (n := 16) (by omega)
    have e : (2 : Int) ^ 16 = 65536 := by decide
    omega
  have e63 : (2 : Int) ^ 63 = 9223372036854775808 := by decide
  have mp : p * 2 ^ k.toNat ≤ 64 * 2 ^ k.toNat := Int.mul_le_mul_of_nonneg_right (by omega) (by omega)
  have mp0 : 0 ≤ p * 2 ^ k.toNat := Int.mul_nonneg f1 (by omega)
  have mn : (1 + n) * 2 ^ k.toNat ≤ 8 * 2 ^ k.toNat := Int.mul_le_mul_of_nonneg_right (by omega) (by omega)
  have mn0 : 0 ≤ (1 + n) * 2 ^ k.toNat := Int.mul_nonneg (by omega) (by omega)
  have t1 : iop .shl .i64 p k = p * 2 ^ k.toNat := shl_i (by omega) (by omega) f1 (by omega)
  have t2 : iop .shl .i64 (1 + n) k = (1 + n) * 2 ^ k.toNat := shl_i (by omega) (by omega) (by omega) (by omega)
  have t3 : iop .shl .i64 1 s = 2 ^ s.toNat := shl1 (by omega)
  have t4 : iop .add .i64 (p * 2 ^ k.toNat) ((1 + n) * 2 ^ k.toNat) = p * 2 ^ k.toNat + (1 + n) * 2 ^ k.toNat := add_i (by omega) (by omega)
  have hcap : capOk ⟨1, b, s, rt, 0, 0, false⟩ = true := by
    have hz : sizeOk 1 s = true := by simp [sizeOk]; omega
    simp only [capOk, hz, hrng]
    simp
    omega
  have hR : retErr ⟨1, b, s, rt, 0, 0, false⟩ (1 + q) k 1 39 (p * 2 ^ k.toNat) (1 + n) = if 2 ^ s.toNat - (1 + n) * 2 ^ k.toNat < p * 2 ^ k.toNat ∨ (1 + q = 1 ∧ s ≤ k) then 6 else 0 := by
    have hm : p * 2 ^ k.toNat % 2 ^ k.toNat = 0 := Int.mul_emod_left _ _
    have hfo : formOk 39 1 = true := by decide
    rw [retErr, if_neg (by simp [hcap]), if_neg o3, if_neg (by
      rintro (h | ⟨h, h'⟩ | h | h | h)
      · rw [hsz] at h; cases h
      · rw [hfo] at h'; cases h'
      · omega
      · omega
      · omega), if_neg (by simp)]
    simp only [hm, ne_eq, not_true, false_or]
  simp only [w1, w2, t1, t2, t3, t4, s20, Option.bind_some]
  rw [reqK_pos (by omega), reqK_pos (by omega), reqK_pos (by omega)]
  by_cases hfit : 2 ^ s.toNat - (1 + n) * 2 ^ k.toNat < p * 2 ^ k.toNat ∨ (1 + q = 1 ∧ s ≤ k)
  · rw [if_pos hfit] at hR
    simp only [hR, retCells]
    repeat' (with_reducible refine ite_goal (fun _ => ?_) (fun _ => ?_))
    all_goals first
      | (rw [s23]; rfl)
      | (exfalso; simp only [cop_lss_t, cop_lss_f, cop_leq_t, cop_leq_f, cop_gtr_t, cop_gtr_f, cop_geq_t, cop_geq_f, cop_eql_t, cop_eql_f, cop_neq_t, cop_neq_f, Bool.not_eq_true, Bool.not_eq_false, Bool.not_eq_true', Bool.not_eq_false', Bool.and_eq_true, Bool.or_eq_true, decide_eq_true_eq, decide_eq_false_iff_not, Bool.false_eq_true, Bool.true_eq_false, Option.bind_some, Option.some.injEq, false_iff, true_iff, iff_false, iff_true, List.length_nil] at *; first | omega | grind)
  · rw [if_neg hfit] at hR
    have hL := l7 hR (1 + n).toNat 0 FUEL (by omega) (fuel_lt (by omega))
    have hlen : (List.length (retCells ⟨1, b, s, rt, 0, 0, false⟩ (1 + q) k 1 39 (p * 2 ^ k.toNat) (1 + n)) : Int) = 1 + n := by
      simp only [retCells, hR, if_true, newCells_len]
      omega
    simp only [hR, hlen]
    repeat' (with_reducible refine ite_goal (fun _ => ?_) (fun _ => ?_))
    all_goals first
      | exact hL
      | (exfalso; simp only [cop_lss_t, cop_lss_f, cop_leq_t, cop_leq_f, cop_gtr_t, cop_gtr_f, cop_geq_t, cop_geq_f, cop_eql_t, cop_eql_f, cop_neq_t, cop_neq_f, Bool.not_eq_true, Bool.not_eq_false, Bool.not_eq_true', Bool.not_eq_false', Bool.and_eq_true, Bool.or_eq_true, decide_eq_true_eq, decide_eq_false_iff_not, Bool.false_eq_true, Bool.true_eq_false, Option.bind_some, Option.some.injEq, false_iff, true_iff, iff_false, iff_true] at *; first | omega | grind)

end Go.Proofs.Ytjfhdhplmibnfaa
