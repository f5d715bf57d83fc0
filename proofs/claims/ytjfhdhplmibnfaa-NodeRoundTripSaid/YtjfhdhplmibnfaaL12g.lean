/- The reference's encoding of nodes, and the reading of integers. -/
import Derived.Test.YtjfhdhplmibnfaaL12f
import Derived.Test.YtjfhdhplmibnfaaF12b
namespace Go.Proofs.Ytjfhdhplmibnfaa
open Go Go.AM
set_option linter.unusedSimpArgs false
set_option linter.unusedVariables false

theorem cnt_fuel : ∀ (k r : Nat), r < 128 ^ k → cnt (k + 1) r = cnt k r
  | 0, r, h => by
    have : r = 0 := by simpa using h
    subst this
    rfl
  | k + 1, r, h => by
    have e : ∀ (m r : Nat), cnt (m + 1) r = if r = 0 then 0 else 1 + cnt m (r / 128) := fun _ _ => rfl
    rw [e (k + 1) r, e k r]
    by_cases h0 : r = 0
    · rw [if_pos h0, if_pos h0]
    · have hd : r / 128 < 128 ^ k := by
        rw [Nat.pow_succ] at h
        exact Nat.div_lt_of_lt_mul (by omega)
      rw [if_neg h0, if_neg h0, cnt_fuel k _ hd]

theorem uv_step {v : Nat} (hv : v < 2 ^ 64) : uv v = if v < 128 then [(v : Int)] else ((v % 128 + 128 : Nat) : Int) :: uv (v / 128) := by
  have h64 : (2 : Nat) ^ 64 = 18446744073709551616 := by decide
  by_cases h : v < 128
  · rw [if_pos h]
    have h0 : v / 128 = 0 := by omega
    have hn : uvN v = 1 := by rw [uvN, h0]; rfl
    have hm : v % 128 = v := by omega
    rw [uv, hn, uvm, hm]
  · rw [if_neg h]
    have h0 : v / 128 ≠ 0 := by omega
    have hf : cnt 10 (v / 128 / 128) = cnt 9 (v / 128 / 128) := cnt_fuel 9 _ (by
      have : (128 : Nat) ^ 9 = 9223372036854775808 := by decide
      omega)
    have hn : uvN v = uvN (v / 128) + 1 := by rw [uvN, uvN, hf, cnt, if_neg h0]; omega
    have hn' : uvN v = (cnt 10 (v / 128 / 128)) + 2 := by rw [hn, uvN]; omega
    rw [uv, hn', uvm, uv, uvN]
    rw [show 1 + cnt 10 (v / 128 / 128) = cnt 10 (v / 128 / 128) + 1 by omega]

theorem uvN_step {v : Nat} (hv : v < 2 ^ 64) : uvN v = if v < 128 then 1 else uvN (v / 128) + 1 := by
  rw [← uv_len, uv_step hv]
  split
  · rfl
  · rw [List.length_cons, uv_len]

theorem l86 : ∀ (k fuel v : Nat) (l : List Int), v < 2 ^ 63 → v < 128 ^ (k + 1) → k < fuel → l.length + k ≤ 1000000 → g86L0 fuel (byteCells l) (v : Int) = some (byteCells (l ++ uv v)) := by
  have h63 : (2 : Nat) ^ 63 = 9223372036854775808 := by decide
  have h64 : (2 : Nat) ^ 64 = 18446744073709551616 := by decide
  have snoc : ∀ (l : List Int) (z : Int), byteCells l ++ (([] : List (List AV)) ++ [[AV.val (.int .u8 z)]]) = byteCells (l ++ [z]) := by intro l z; simp [byteCells, u8c]
  have small : ∀ (f v : Nat) (l : List Int), v < 128 → l.length ≤ 1000000 → g86L0 (f + 1) (byteCells l) (v : Int) = some (byteCells (l ++ uv v)) := by
    intro f v l hv hl
    have w : IntKind.wrap .u8 (v : Int) = (v : Int) := by rw [wrap8]; omega
    rw [g86L0_eq, if_neg (by simp only [cop_lss_t, cop_lss_f, cop_leq_t, cop_leq_f, cop_gtr_t, cop_gtr_f, cop_geq_t, cop_geq_f, cop_eql_t, cop_eql_f, cop_neq_t, cop_neq_f, Bool.not_eq_true, Bool.not_eq_false, Bool.not_eq_true', Bool.not_eq_false', Bool.and_eq_true, Bool.or_eq_true, decide_eq_true_eq, decide_eq_false_iff_not, Bool.false_eq_true, Bool.true_eq_false, Option.bind_some, Option.some.injEq, false_iff, true_iff, iff_false, iff_true]; omega), reqK_pos (room1 (by rw [bytes_len]; exact hl) (by simp)), w, snoc, uv_step (by omega), if_pos hv]
  intro k
  induction k with
  | zero =>
    intro fuel v l h1 h2 hf hl
    obtain ⟨f, rfl⟩ : ∃ f, fuel = f + 1 := ⟨fuel - 1, by omega⟩
    exact small f v l (by simpa using h2) (by omega)
  | succ k ih =>
    intro fuel v l h1 h2 hf hl
    obtain ⟨f, rfl⟩ : ∃ f, fuel = f + 1 := ⟨fuel - 1, by omega⟩
    by_cases hv : v < 128
    · exact small f v l hv (by omega)
    · have hd : v / 128 < 128 ^ (k + 1) := by
        rw [Nat.pow_succ] at h2
        exact Nat.div_lt_of_lt_mul (by omega)
      have e1 : iop .rem .i64 (v : Int) 128 = ((v % 128 : Nat) : Int) := by
        show (v : Int).tmod 128 = _
        rw [Int.tmod_eq_emod_of_nonneg (by omega)]
        omega
      have e2 : iop .add .i64 ((v % 128 : Nat) : Int) 128 = ((v % 128 + 128 : Nat) : Int) := by rw [add_i (by omega) (by omega)]; omega
      have e3 : IntKind.wrap .u8 ((v % 128 + 128 : Nat) : Int) = ((v % 128 + 128 : Nat) : Int) := by rw [wrap8]; omega
      have e4 : iop .quo .i64 (v : Int) 128 = ((v / 128 : Nat) : Int) := by
        show IntKind.wrap .i64 ((v : Int).tdiv 128) = _
        rw [Int.tdiv_eq_ediv_of_nonneg (by omega), wrap_of (by omega) (by omega)]
        omega
      rw [g86L0_eq, if_pos (by simp only [cop_lss_t, cop_lss_f, cop_leq_t, cop_leq_f, cop_gtr_t, cop_gtr_f, cop_geq_t, cop_geq_f, cop_eql_t, cop_eql_f, cop_neq_t, cop_neq_f, Bool.not_eq_true, Bool.not_eq_false, Bool.not_eq_true', Bool.not_eq_false', Bool.and_eq_true, Bool.or_eq_true, decide_eq_true_eq, decide_eq_false_iff_not, Bool.false_eq_true, Bool.true_eq_false, Option.bind_some, Option.some.injEq, false_iff, true_iff, iff_false, iff_true]; omega), reqK_pos (by decide), reqK_pos (room1 (by rw [bytes_len]; omega) (by simp)), reqK_pos (by decide), e1, e2, e3, e4, snoc,
        ih f (v / 128) _ (by omega) hd (by omega) (by rw [List.length_append]; simp; omega), uv_step (v := v) (by omega), if_neg hv]
      simp [List.append_assoc]

theorem s86 (l : List Int) (hl : l.length ≤ 900000) (z : Int) (h0 : 0 ≤ z) (h1 : z < 2 ^ 63) : g86 (byteCells l) z = some (byteCells (l ++ uv z.toNat)) := by
  have h63 : (2 : Int) ^ 63 = 9223372036854775808 := by decide
  have h63' : (2 : Nat) ^ 63 = 9223372036854775808 := by decide
  have h128 : (128 : Nat) ^ 11 = 151115727451828646838272 := by decide
  have e : z = ((z.toNat : Nat) : Int) := by omega
  rw [g86_eq]
  have := l86 10 FUEL z.toNat l (by omega) (by omega) (fuel_lt (by decide)) (by omega)
  rw [← e] at this
  exact this

theorem s87 (l : List Int) (hl : l.length ≤ 800000) (i : Id) (hi : idOk i = true) : g87 (byteCells l) i.core i.op i.part = some (byteCells (l ++ idB i)) := by
  obtain ⟨h1, h2, h3, h4, h5, h6⟩ := idOk_of hi
  have h63 : (2 : Int) ^ 63 = 9223372036854775808 := by decide
  have u1 := uvN_le i.core.toNat
  have u2 := uvN_le i.op.toNat
  rw [g87_eq, s86 l (by omega) i.core h1 (by omega), Option.bind_some, s86 _ (by rw [List.length_append, uv_len]; omega) i.op (by omega) (by omega), Option.bind_some,
    s86 _ (by rw [List.length_append, List.length_append, uv_len, uv_len]; omega) i.part (by omega) (by omega), Option.bind_some]
  simp [idB, List.append_assoc]

theorem l64 (n : Node) (hn : nodeOk n = true) : ∀ (j i fuel : Nat) (acc : List Int), n.path.length = i + j → j < fuel → acc.length ≤ 1000 + 33 * i →
    g64L0 fuel n.id.core n.id.op n.id.part (idCells n.path) n.cap.kind n.cap.base n.cap.bits n.cap.rights n.cap.width n.cap.level n.cap.device (byteCells acc) i =
      some (byteCells (acc ++ ((n.path.drop i).map idB).flatten ++ capCode n.cap), 0) := by
  obtain ⟨h1, h2, h3, h4⟩ := node_of hn
  intro j
  induction j with
  | zero =>
    intro i fuel acc h hf ha
    obtain ⟨f, rfl⟩ : ∃ f, fuel = f + 1 := ⟨fuel - 1, by omega⟩
    have hb : encB ⟨n.cap.kind, n.cap.base, n.cap.bits, n.cap.rights, n.cap.width, n.cap.level, n.cap.device⟩ = capCode n.cap := by
      show encB n.cap = _
      unfold encB
      rw [if_pos h2]
    rw [g64L0_eq, if_neg (by simp only [cop_lss_t, cop_lss_f, cop_leq_t, cop_leq_f, cop_gtr_t, cop_gtr_f, cop_geq_t, cop_geq_f, cop_eql_t, cop_eql_f, cop_neq_t, cop_neq_f, Bool.not_eq_true, Bool.not_eq_false, Bool.not_eq_true', Bool.not_eq_false', Bool.and_eq_true, Bool.or_eq_true, decide_eq_true_eq, decide_eq_false_iff_not, Bool.false_eq_true, Bool.true_eq_false, Option.bind_some, Option.some.injEq, false_iff, true_iff, iff_false, iff_true, ids_len]; omega), s39, Option.bind_some, hb, reqK_pos (room1 (by rw [bytes_len]; omega) (by rw [bytes_len]; simp [capCode])), List.drop_of_length_le (by omega)]
    simp [bytes_app]
  | succ j ih =>
    intro i fuel acc h hf ha
    obtain ⟨f, rfl⟩ : ∃ f, fuel = f + 1 := ⟨fuel - 1, by omega⟩
    have hi : i < n.path.length := by omega
    have hat : n.path[(i : Int).toNat]? = some n.path[i] := by simp
    have a4 : iop .add .i64 i 1 = ((i + 1 : Nat) : Int) := by rw [add_i (by omega) (by omega)]; omega
    have hx := path_ok hn n.path[i] (List.getElem_mem hi)
    have hle := idB_le n.path[i]
    rw [g64L0_eq, if_pos (by simp only [cop_lss_t, cop_lss_f, cop_leq_t, cop_leq_f, cop_gtr_t, cop_gtr_f, cop_geq_t, cop_geq_f, cop_eql_t, cop_eql_f, cop_neq_t, cop_neq_f, Bool.not_eq_true, Bool.not_eq_false, Bool.not_eq_true', Bool.not_eq_false', Bool.and_eq_true, Bool.or_eq_true, decide_eq_true_eq, decide_eq_false_iff_not, Bool.false_eq_true, Bool.true_eq_false, Option.bind_some, Option.some.injEq, false_iff, true_iff, iff_false, iff_true, ids_len]; omega), elem_id _ (by omega) hat, s87 acc (by omega) _ hx, Option.bind_some, a4, ih (i + 1) f _ (by omega) (by omega) (by rw [List.length_append]; omega), List.drop_eq_getElem_cons hi]
    simp only [List.map_cons, List.flatten_cons, List.append_assoc]

theorem s64 (n : Node) (hl : n.path.length < 2 ^ 62) : g64 n.id.core n.id.op n.id.part (idCells n.path) n.cap.kind n.cap.base n.cap.bits n.cap.rights n.cap.width n.cap.level n.cap.device = some (byteCells (nodeB n), nodeE n) := by
  rw [g64_eq, s60 n hl, Option.bind_some]
  unfold nodeB nodeE
  cases hn : nodeOk n with
  | false => rfl
  | true =>
    obtain ⟨h1, h2, h3, h4⟩ := node_of hn
    have hle := idB_le n.id
    have hu := uvN_le n.path.length
    have e0 : ([] : List (List AV)) = byteCells [] := rfl
    rw [if_neg (by simp), e0, s87 [] (by simp) n.id h1, Option.bind_some, List.nil_append, ids_len, s86 _ (by omega) _ (by omega) (by omega), Option.bind_some, Int.toNat_natCast, if_pos rfl, if_pos rfl]
    have := l64 n hn n.path.length 0 FUEL (idB n.id ++ uv n.path.length) (by omega) (fuel_lt (by omega)) (by rw [List.length_append, uv_len]; omega)
    refine this.trans ?_
    rfl

end Go.Proofs.Ytjfhdhplmibnfaa
