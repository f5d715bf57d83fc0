/- Ids, and what makes a node valid. -/
import Derived.Test.YtjfhdhplmibnfaaL11f
import Derived.Test.YtjfhdhplmibnfaaF12a
namespace Go.Proofs.Ytjfhdhplmibnfaa
open Go Go.AM
set_option linter.unusedSimpArgs false
set_option linter.unusedVariables false

abbrev idSh : List Sh := [.int .i64, .int .i64, .int .i64]

/-- node.ValidId -/
def idOk (i : Id) : Bool := decide (0 ≤ i.core ∧ i.core < 32 ∧ 1 ≤ i.op ∧ i.op ≤ 1073741824 ∧ 0 ≤ i.part ∧ i.part < 8)

theorem s58 (a b c : Int) : g58 a b c = some (idOk ⟨a, b, c⟩) := by
  rw [g58_eq]
  repeat' split
  all_goals (refine congrArg some ?_; rw [bool_iff]; simp only [idOk, cop_lss_t, cop_lss_f, cop_leq_t, cop_leq_f, cop_gtr_t, cop_gtr_f, cop_geq_t, cop_geq_f, cop_eql_t, cop_eql_f, cop_neq_t, cop_neq_f, Bool.not_eq_true, Bool.not_eq_false, Bool.not_eq_true', Bool.not_eq_false', Bool.and_eq_true, Bool.or_eq_true, decide_eq_true_eq, decide_eq_false_iff_not, Bool.false_eq_true, Bool.true_eq_false, Option.bind_some, Option.some.injEq, false_iff, true_iff, iff_false, iff_true] at *; omega)

theorem s101 (a : Int) : g101 a = some false := by
  rw [g101_eq]
  simp [cop]

def cmpI (a b : Int) : Int := if a < b then -1 else if b < a then 1 else 0

theorem s99 (a b : Int) : g99 a b = some (cmpI a b) := by
  rw [g99_eq]
  simp only [s101, Option.bind_some, Bool.false_eq_true, if_false]
  by_cases h1 : a < b
  · rw [if_pos (by simp only [cop_lss_t, cop_lss_f, cop_leq_t, cop_leq_f, cop_gtr_t, cop_gtr_f, cop_geq_t, cop_geq_f, cop_eql_t, cop_eql_f, cop_neq_t, cop_neq_f, Bool.not_eq_true, Bool.not_eq_false, Bool.not_eq_true', Bool.not_eq_false', Bool.and_eq_true, Bool.or_eq_true, decide_eq_true_eq, decide_eq_false_iff_not, Bool.false_eq_true, Bool.true_eq_false, Option.bind_some, Option.some.injEq, false_iff, true_iff, iff_false, iff_true]; omega), cmpI, if_pos h1]
  · by_cases h2 : b < a
    · rw [if_neg (by simp only [cop_lss_t, cop_lss_f, cop_leq_t, cop_leq_f, cop_gtr_t, cop_gtr_f, cop_geq_t, cop_geq_f, cop_eql_t, cop_eql_f, cop_neq_t, cop_neq_f, Bool.not_eq_true, Bool.not_eq_false, Bool.not_eq_true', Bool.not_eq_false', Bool.and_eq_true, Bool.or_eq_true, decide_eq_true_eq, decide_eq_false_iff_not, Bool.false_eq_true, Bool.true_eq_false, Option.bind_some, Option.some.injEq, false_iff, true_iff, iff_false, iff_true]; omega), if_pos (by simp only [cop_lss_t, cop_lss_f, cop_leq_t, cop_leq_f, cop_gtr_t, cop_gtr_f, cop_geq_t, cop_geq_f, cop_eql_t, cop_eql_f, cop_neq_t, cop_neq_f, Bool.not_eq_true, Bool.not_eq_false, Bool.not_eq_true', Bool.not_eq_false', Bool.and_eq_true, Bool.or_eq_true, decide_eq_true_eq, decide_eq_false_iff_not, Bool.false_eq_true, Bool.true_eq_false, Option.bind_some, Option.some.injEq, false_iff, true_iff, iff_false, iff_true]; omega), cmpI, if_neg h1, if_pos h2]
    · rw [if_neg (by simp only [cop_lss_t, cop_lss_f, cop_leq_t, cop_leq_f, cop_gtr_t, cop_gtr_f, cop_geq_t, cop_geq_f, cop_eql_t, cop_eql_f, cop_neq_t, cop_neq_f, Bool.not_eq_true, Bool.not_eq_false, Bool.not_eq_true', Bool.not_eq_false', Bool.and_eq_true, Bool.or_eq_true, decide_eq_true_eq, decide_eq_false_iff_not, Bool.false_eq_true, Bool.true_eq_false, Option.bind_some, Option.some.injEq, false_iff, true_iff, iff_false, iff_true]; omega), if_neg (by simp only [cop_lss_t, cop_lss_f, cop_leq_t, cop_leq_f, cop_gtr_t, cop_gtr_f, cop_geq_t, cop_geq_f, cop_eql_t, cop_eql_f, cop_neq_t, cop_neq_f, Bool.not_eq_true, Bool.not_eq_false, Bool.not_eq_true', Bool.not_eq_false', Bool.and_eq_true, Bool.or_eq_true, decide_eq_true_eq, decide_eq_false_iff_not, Bool.false_eq_true, Bool.true_eq_false, Option.bind_some, Option.some.injEq, false_iff, true_iff, iff_false, iff_true]; omega), cmpI, if_neg h1, if_neg h2]

def firstNZ (x y z : Int) : Int := if x ≠ 0 then x else if y ≠ 0 then y else z

theorem s98 (x y z : Int) : g98 (((([] : List (List AV)) ++ [[AV.val (.int .i64 x)]]) ++ [[AV.val (.int .i64 y)]]) ++ [[AV.val (.int .i64 z)]]) = some (firstNZ x y z) := by
  obtain ⟨f, hf⟩ := fuel6
  have e : (((([] : List (List AV)) ++ [[AV.val (.int .i64 x)]]) ++ [[AV.val (.int .i64 y)]]) ++ [[AV.val (.int .i64 z)]]) = [i64c x, i64c y, i64c z] := rfl
  have e1 : iop .add .i64 0 1 = 1 := by decide
  have e2 : iop .add .i64 1 1 = 2 := by decide
  have e3 : iop .add .i64 2 1 = 3 := by decide
  have hl : (([i64c x, i64c y, i64c z] : List (List AV)).length : Int) = 3 := rfl
  rw [g98_eq, e, hf, hl]
  rw [g98L0_eq, if_pos (by decide), elemK_at (sh := [.int .i64]) (cs := i64c x) (r := x) _ (by decide) rfl rfl]
  by_cases hx : x = 0
  · rw [if_neg (by simp only [cop_lss_t, cop_lss_f, cop_leq_t, cop_leq_f, cop_gtr_t, cop_gtr_f, cop_geq_t, cop_geq_f, cop_eql_t, cop_eql_f, cop_neq_t, cop_neq_f, Bool.not_eq_true, Bool.not_eq_false, Bool.not_eq_true', Bool.not_eq_false', Bool.and_eq_true, Bool.or_eq_true, decide_eq_true_eq, decide_eq_false_iff_not, Bool.false_eq_true, Bool.true_eq_false, Option.bind_some, Option.some.injEq, false_iff, true_iff, iff_false, iff_true]; omega), e1, g98L0_eq, if_pos (by decide), elemK_at (sh := [.int .i64]) (cs := i64c y) (r := y) _ (by decide) rfl rfl]
    by_cases hy : y = 0
    · rw [if_neg (by simp only [cop_lss_t, cop_lss_f, cop_leq_t, cop_leq_f, cop_gtr_t, cop_gtr_f, cop_geq_t, cop_geq_f, cop_eql_t, cop_eql_f, cop_neq_t, cop_neq_f, Bool.not_eq_true, Bool.not_eq_false, Bool.not_eq_true', Bool.not_eq_false', Bool.and_eq_true, Bool.or_eq_true, decide_eq_true_eq, decide_eq_false_iff_not, Bool.false_eq_true, Bool.true_eq_false, Option.bind_some, Option.some.injEq, false_iff, true_iff, iff_false, iff_true]; omega), e2, g98L0_eq, if_pos (by decide), elemK_at (sh := [.int .i64]) (cs := i64c z) (r := z) _ (by decide) rfl rfl]
      by_cases hz : z = 0
      · rw [if_neg (by simp only [cop_lss_t, cop_lss_f, cop_leq_t, cop_leq_f, cop_gtr_t, cop_gtr_f, cop_geq_t, cop_geq_f, cop_eql_t, cop_eql_f, cop_neq_t, cop_neq_f, Bool.not_eq_true, Bool.not_eq_false, Bool.not_eq_true', Bool.not_eq_false', Bool.and_eq_true, Bool.or_eq_true, decide_eq_true_eq, decide_eq_false_iff_not, Bool.false_eq_true, Bool.true_eq_false, Option.bind_some, Option.some.injEq, false_iff, true_iff, iff_false, iff_true]; omega), e3, g98L0_eq, if_neg (by decide)]
        simp [firstNZ, hx, hy, hz]
      · rw [if_pos (by simp only [cop_lss_t, cop_lss_f, cop_leq_t, cop_leq_f, cop_gtr_t, cop_gtr_f, cop_geq_t, cop_geq_f, cop_eql_t, cop_eql_f, cop_neq_t, cop_neq_f, Bool.not_eq_true, Bool.not_eq_false, Bool.not_eq_true', Bool.not_eq_false', Bool.and_eq_true, Bool.or_eq_true, decide_eq_true_eq, decide_eq_false_iff_not, Bool.false_eq_true, Bool.true_eq_false, Option.bind_some, Option.some.injEq, false_iff, true_iff, iff_false, iff_true]; omega)]
        simp [firstNZ, hx, hy]
    · rw [if_pos (by simp only [cop_lss_t, cop_lss_f, cop_leq_t, cop_leq_f, cop_gtr_t, cop_gtr_f, cop_geq_t, cop_geq_f, cop_eql_t, cop_eql_f, cop_neq_t, cop_neq_f, Bool.not_eq_true, Bool.not_eq_false, Bool.not_eq_true', Bool.not_eq_false', Bool.and_eq_true, Bool.or_eq_true, decide_eq_true_eq, decide_eq_false_iff_not, Bool.false_eq_true, Bool.true_eq_false, Option.bind_some, Option.some.injEq, false_iff, true_iff, iff_false, iff_true]; omega)]
      simp [firstNZ, hx, hy]
  · rw [if_pos (by simp only [cop_lss_t, cop_lss_f, cop_leq_t, cop_leq_f, cop_gtr_t, cop_gtr_f, cop_geq_t, cop_geq_f, cop_eql_t, cop_eql_f, cop_neq_t, cop_neq_f, Bool.not_eq_true, Bool.not_eq_false, Bool.not_eq_true', Bool.not_eq_false', Bool.and_eq_true, Bool.or_eq_true, decide_eq_true_eq, decide_eq_false_iff_not, Bool.false_eq_true, Bool.true_eq_false, Option.bind_some, Option.some.injEq, false_iff, true_iff, iff_false, iff_true]; omega)]
    simp [firstNZ, hx]

theorem s82 (a b c d e f : Int) : g82 a b c d e f = some (firstNZ (cmpI a d) (cmpI b e) (cmpI c f)) := by
  rw [g82_eq]
  simp only [s99, Option.bind_some, s98]

/-- node.Less -/
def idLt (a b c d e f : Int) : Bool := decide (a < d ∨ (a = d ∧ (b < e ∨ (b = e ∧ c < f))))

theorem s55 (a b c d e f : Int) : g55 a b c d e f = some (idLt a b c d e f) := by
  rw [g55_eq, s82, Option.bind_some]
  refine congrArg some ?_
  rw [bool_iff]
  simp only [idLt, cop_lss_t, cop_lss_f, cop_leq_t, cop_leq_f, cop_gtr_t, cop_gtr_f, cop_geq_t, cop_geq_f, cop_eql_t, cop_eql_f, cop_neq_t, cop_neq_f, Bool.not_eq_true, Bool.not_eq_false, Bool.not_eq_true', Bool.not_eq_false', Bool.and_eq_true, Bool.or_eq_true, decide_eq_true_eq, decide_eq_false_iff_not, Bool.false_eq_true, Bool.true_eq_false, Option.bind_some, Option.some.injEq, false_iff, true_iff, iff_false, iff_true, cmpI, firstNZ]
  repeat' split
  all_goals omega

theorem ids_len (l : List Id) : (idCells l).length = l.length := by simp [idCells]
theorem ids_take (l : List Id) (n : Nat) : (idCells l).take n = idCells (l.take n) := by simp [idCells, List.map_take]
theorem ids_at {l : List Id} {i : Nat} {x : Id} (h : l[i]? = some x) : (idCells l)[i]? = some (idc x) := by simp [idCells, h]

theorem elem_id {γ : Type} {l : List Id} {i : Int} {x : Id} (k : (Int × Int × Int) → Option γ) (h0 : 0 ≤ i) (h : l[i.toNat]? = some x) : elemK (idCells l) i idSh k = k (x.core, x.op, x.part) :=
  elemK_at (sh := idSh) (r := (x.core, x.op, x.part)) k h0 (ids_at h) rfl

theorem id_eqb (a b c d e f : Int) : ((cop .eql a d && (cop .eql b e && (cop .eql c f && true))) = true) ↔ ((⟨a, b, c⟩ : Id) = ⟨d, e, f⟩) := by
  simp only [cop_lss_t, cop_lss_f, cop_leq_t, cop_leq_f, cop_gtr_t, cop_gtr_f, cop_geq_t, cop_geq_f, cop_eql_t, cop_eql_f, cop_neq_t, cop_neq_f, Bool.not_eq_true, Bool.not_eq_false, Bool.not_eq_true', Bool.not_eq_false', Bool.and_eq_true, Bool.or_eq_true, decide_eq_true_eq, decide_eq_false_iff_not, Bool.false_eq_true, Bool.true_eq_false, Option.bind_some, Option.some.injEq, false_iff, true_iff, iff_false, iff_true, Id.mk.injEq, and_true]

theorem l96 {l : List Id} (hl : l.length < 2 ^ 62) (a b c : Int) : ∀ (j i fuel : Nat), l.length = i + j → j < fuel → ∃ r, g96L0 fuel (idCells l) a b c (l.length : Int) i = some r ∧ (0 ≤ r ↔ (⟨a, b, c⟩ : Id) ∈ l.drop i) := by
  intro j
  induction j with
  | zero =>
    intro i fuel h hf
    obtain ⟨f, rfl⟩ : ∃ f, fuel = f + 1 := ⟨fuel - 1, by omega⟩
    refine ⟨-1, by rw [g96L0_eq, if_neg (by simp only [cop_lss_t, cop_lss_f, cop_leq_t, cop_leq_f, cop_gtr_t, cop_gtr_f, cop_geq_t, cop_geq_f, cop_eql_t, cop_eql_f, cop_neq_t, cop_neq_f, Bool.not_eq_true, Bool.not_eq_false, Bool.not_eq_true', Bool.not_eq_false', Bool.and_eq_true, Bool.or_eq_true, decide_eq_true_eq, decide_eq_false_iff_not, Bool.false_eq_true, Bool.true_eq_false, Option.bind_some, Option.some.injEq, false_iff, true_iff, iff_false, iff_true]; omega)], ?_⟩
    rw [List.drop_of_length_le (by omega)]
    simp
  | succ j ih =>
    intro i fuel h hf
    obtain ⟨f, rfl⟩ : ∃ f, fuel = f + 1 := ⟨fuel - 1, by omega⟩
    have hi : i < l.length := by omega
    have hat : l[(i : Int).toNat]? = some l[i] := by simp
    have a4 : iop .add .i64 i 1 = ((i + 1 : Nat) : Int) := by rw [add_i (by omega) (by omega)]; omega
    rw [g96L0_eq, if_pos (by simp only [cop_lss_t, cop_lss_f, cop_leq_t, cop_leq_f, cop_gtr_t, cop_gtr_f, cop_geq_t, cop_geq_f, cop_eql_t, cop_eql_f, cop_neq_t, cop_neq_f, Bool.not_eq_true, Bool.not_eq_false, Bool.not_eq_true', Bool.not_eq_false', Bool.and_eq_true, Bool.or_eq_true, decide_eq_true_eq, decide_eq_false_iff_not, Bool.false_eq_true, Bool.true_eq_false, Option.bind_some, Option.some.injEq, false_iff, true_iff, iff_false, iff_true]; omega), elem_id _ (by omega) hat, a4, List.drop_eq_getElem_cons hi]
    by_cases he : (⟨a, b, c⟩ : Id) = l[i]
    · refine ⟨i, ?_, ?_⟩
      · rw [if_pos]
        rw [id_eqb]
        exact he
      · rw [List.mem_cons]
        exact ⟨fun _ => .inl he, fun _ => by omega⟩
    · obtain ⟨r, h1, h2⟩ := ih (i + 1) f (by omega) (by omega)
      refine ⟨r, ?_, ?_⟩
      · rw [if_neg, h1]
        rw [id_eqb]
        exact he
      · rw [h2, List.mem_cons]
        simp [he]

theorem s80 (l : List Id) (hl : l.length < 2 ^ 62) (a b c : Int) : g80 (idCells l) a b c = some (l.contains ⟨a, b, c⟩) := by
  obtain ⟨r, h1, h2⟩ := l96 hl a b c l.length 0 FUEL (by omega) (fuel_lt (by omega))
  rw [g80_eq, g96_eq, ids_len]
  have h1' : g96L0 FUEL (idCells l) a b c (l.length : Int) 0 = some r := h1
  rw [h1', Option.bind_some]
  refine congrArg some ?_
  rw [bool_iff]
  simp only [cop_lss_t, cop_lss_f, cop_leq_t, cop_leq_f, cop_gtr_t, cop_gtr_f, cop_geq_t, cop_geq_f, cop_eql_t, cop_eql_f, cop_neq_t, cop_neq_f, Bool.not_eq_true, Bool.not_eq_false, Bool.not_eq_true', Bool.not_eq_false', Bool.and_eq_true, Bool.or_eq_true, decide_eq_true_eq, decide_eq_false_iff_not, Bool.false_eq_true, Bool.true_eq_false, Option.bind_some, Option.some.injEq, false_iff, true_iff, iff_false, iff_true, List.contains_iff_mem]
  rw [List.drop_zero] at h2
  exact h2

structure Node where
  id : Id
  path : List Id
  cap : Cap

def pathAt (n : Node) (i : Nat) : Bool := match n.path[i]? with | none => true | some x => idOk x && decide (x ≠ n.id) && !(n.path.take i).contains x

/-- node.Valid -/
def nodeOk (n : Node) : Bool := idOk n.id && capOk n.cap && decide (n.path.length ≤ 8) && (List.range n.path.length).all (pathAt n)

theorem l49 (n : Node) (hl : n.path.length < 2 ^ 62) : ∀ (j i fuel : Nat), n.path.length = i + j → j < fuel →
    g49L0 fuel n.id.core n.id.op n.id.part (idCells n.path) n.cap.kind n.cap.base n.cap.bits n.cap.rights n.cap.width n.cap.level n.cap.device (idCells n.path) (n.path.length : Int) i = some ((List.range' i j).all (pathAt n)) := by
  intro j
  induction j with
  | zero =>
    intro i fuel h hf
    obtain ⟨f, rfl⟩ : ∃ f, fuel = f + 1 := ⟨fuel - 1, by omega⟩
    rw [g49L0_eq, if_neg (by simp only [cop_lss_t, cop_lss_f, cop_leq_t, cop_leq_f, cop_gtr_t, cop_gtr_f, cop_geq_t, cop_geq_f, cop_eql_t, cop_eql_f, cop_neq_t, cop_neq_f, Bool.not_eq_true, Bool.not_eq_false, Bool.not_eq_true', Bool.not_eq_false', Bool.and_eq_true, Bool.or_eq_true, decide_eq_true_eq, decide_eq_false_iff_not, Bool.false_eq_true, Bool.true_eq_false, Option.bind_some, Option.some.injEq, false_iff, true_iff, iff_false, iff_true]; omega)]
    rfl
  | succ j ih =>
    intro i fuel h hf
    obtain ⟨f, rfl⟩ : ∃ f, fuel = f + 1 := ⟨fuel - 1, by omega⟩
    have hi : i < n.path.length := by omega
    have hat : n.path[(i : Int).toNat]? = some n.path[i] := by simp
    have a4 : iop .add .i64 i 1 = ((i + 1 : Nat) : Int) := by rw [add_i (by omega) (by omega)]; omega
    have hp : pathAt n i = (idOk n.path[i] && decide (n.path[i] ≠ n.id) && !(n.path.take i).contains n.path[i]) := by
      unfold pathAt
      rw [List.getElem?_eq_getElem hi]
    have hlt : (n.path.take i).length < 2 ^ 62 := by rw [List.length_take]; omega
    rw [g49L0_eq, if_pos (by simp only [cop_lss_t, cop_lss_f, cop_leq_t, cop_leq_f, cop_gtr_t, cop_gtr_f, cop_geq_t, cop_geq_f, cop_eql_t, cop_eql_f, cop_neq_t, cop_neq_f, Bool.not_eq_true, Bool.not_eq_false, Bool.not_eq_true', Bool.not_eq_false', Bool.and_eq_true, Bool.or_eq_true, decide_eq_true_eq, decide_eq_false_iff_not, Bool.false_eq_true, Bool.true_eq_false, Option.bind_some, Option.some.injEq, false_iff, true_iff, iff_false, iff_true]; omega), elem_id _ (by omega) hat, a4, List.range'_succ, List.all_cons, hp]
    simp only [s58, Option.bind_some]
    cases h1 : idOk n.path[i] with
    | false => simp
    | true =>
      rw [if_neg (by simp)]
      by_cases h2 : n.path[i] = n.id
      · rw [if_pos (by rw [id_eqb]; exact h2)]
        simp [h2]
      · rw [if_neg (by rw [id_eqb]; exact h2), reqK_pos (by omega), reqK_pos (by rw [ids_len]; omega), Int.toNat_natCast, ids_take, s80 _ hlt, Option.bind_some]
        cases h3 : (n.path.take i).contains n.path[i] with
        | true => simp
        | false =>
          rw [if_neg (by simp)]
          have := ih (i + 1) f (by omega) (by omega)
          rw [this]
          simp [h2]

theorem s49 (n : Node) (hl : n.path.length < 2 ^ 62) : g49 n.id.core n.id.op n.id.part (idCells n.path) n.cap.kind n.cap.base n.cap.bits n.cap.rights n.cap.width n.cap.level n.cap.device = some (nodeOk n) := by
  rw [g49_eq]
  simp only [s58, s28, Option.bind_some, ids_len]
  unfold nodeOk
  cases h1 : idOk n.id with
  | false => simp [show (⟨n.id.core, n.id.op, n.id.part⟩ : Id) = n.id from rfl, h1]
  | true =>
    cases h2 : capOk n.cap with
    | false => simp [show (⟨n.id.core, n.id.op, n.id.part⟩ : Id) = n.id from rfl, h1, show (⟨n.cap.kind, n.cap.base, n.cap.bits, n.cap.rights, n.cap.width, n.cap.level, n.cap.device⟩ : Cap) = n.cap from rfl, h2]
    | true =>
      rw [if_neg (by simp), if_neg (by simp)]
      by_cases h3 : n.path.length ≤ 8
      · rw [if_neg (by simp only [cop_lss_t, cop_lss_f, cop_leq_t, cop_leq_f, cop_gtr_t, cop_gtr_f, cop_geq_t, cop_geq_f, cop_eql_t, cop_eql_f, cop_neq_t, cop_neq_f, Bool.not_eq_true, Bool.not_eq_false, Bool.not_eq_true', Bool.not_eq_false', Bool.and_eq_true, Bool.or_eq_true, decide_eq_true_eq, decide_eq_false_iff_not, Bool.false_eq_true, Bool.true_eq_false, Option.bind_some, Option.some.injEq, false_iff, true_iff, iff_false, iff_true]; omega)]
        have := l49 n hl n.path.length 0 FUEL (by omega) (fuel_lt (by omega))
        have e : (List.range' 0 n.path.length) = List.range n.path.length := (List.range_eq_range' ..).symm
        rw [e] at this
        refine this.trans ?_
        simp [h3]
      · rw [if_pos (by simp only [cop_lss_t, cop_lss_f, cop_leq_t, cop_leq_f, cop_gtr_t, cop_gtr_f, cop_geq_t, cop_geq_f, cop_eql_t, cop_eql_f, cop_neq_t, cop_neq_f, Bool.not_eq_true, Bool.not_eq_false, Bool.not_eq_true', Bool.not_eq_false', Bool.and_eq_true, Bool.or_eq_true, decide_eq_true_eq, decide_eq_false_iff_not, Bool.false_eq_true, Bool.true_eq_false, Option.bind_some, Option.some.injEq, false_iff, true_iff, iff_false, iff_true]; omega)]
        simp [h3]

theorem s50 (n : Node) (hl : n.path.length < 2 ^ 62) (a b c : Int) : g50 n.id.core n.id.op n.id.part (idCells n.path) n.cap.kind n.cap.base n.cap.bits n.cap.rights n.cap.width n.cap.level n.cap.device a b c = some (n.path.contains ⟨a, b, c⟩) := by
  rw [g50_eq, s80 _ hl, Option.bind_some]

theorem s78 (l : List Id) (hl : l.length ≤ 1000000) : g78 (idCells l) = some (idCells l) := by
  rw [g78_eq]
  refine nilK_of (fun h => ?_) ?_
  · rw [if_pos rfl, h]
  · rw [if_neg (by simp), reqK_pos (room_ok (by rw [ids_len, List.length_nil]; omega)), List.nil_append]

def childErr (n : Node) (i : Id) (c : Cap) : Int := if nodeOk n = false ∨ idOk i = false ∨ capOk c = false ∨ i = n.id ∨ n.path.contains i = true then 1 else if 8 ≤ n.path.length then 9 else 0

/-- node.Child -/
theorem s43 (n : Node) (hl : n.path.length < 2 ^ 62) (i : Id) (c : Cap) :
    g43 n.id.core n.id.op n.id.part (idCells n.path) n.cap.kind n.cap.base n.cap.bits n.cap.rights n.cap.width n.cap.level n.cap.device i.core i.op i.part c.kind c.base c.bits c.rights c.width c.level c.device =
      some (if childErr n i c = 0 then (i.core, i.op, i.part, idCells (n.path ++ [n.id]), c.kind, c.base, c.bits, c.rights, c.width, c.level, c.device, 0) else (0, 0, 0, [], 0, 0, 0, 0, 0, 0, false, childErr n i c)) := by
  rw [g43_eq]
  simp only [s49 n hl, s58, s28, s50 n hl, Option.bind_some, ids_len]
  refine ite_goal (fun h1 => ?_) fun h1 => ?_
  · have h1' : nodeOk n = false := by simpa using h1
    rw [show childErr n i c = 1 from if_pos (.inl h1')]; rfl
  have h1' : nodeOk n = true := by simpa using h1
  refine ite_goal (fun h2 => ?_) fun h2 => ?_
  · have h2' : idOk i = false := by simpa using h2
    rw [show childErr n i c = 1 from if_pos (.inr (.inl h2'))]; rfl
  have h2' : idOk i = true := by simpa using h2
  refine ite_goal (fun h3 => ?_) fun h3 => ?_
  · have h3' : capOk c = false := by simpa using h3
    rw [show childErr n i c = 1 from if_pos (.inr (.inr (.inl h3')))]; rfl
  have h3' : capOk c = true := by simpa using h3
  refine ite_goal (fun h4 => ?_) fun h4 => ?_
  · have h4' : i = n.id := by rw [id_eqb] at h4; exact h4
    rw [show childErr n i c = 1 from if_pos (.inr (.inr (.inr (.inl h4'))))]; rfl
  have h4' : ¬ i = n.id := by rw [id_eqb] at h4; exact h4
  refine ite_goal (fun h5 => ?_) fun h5 => ?_
  · have h5' : n.path.contains i = true := h5
    rw [show childErr n i c = 1 from if_pos (.inr (.inr (.inr (.inr h5'))))]; rfl
  have h5' : n.path.contains i = false := by simpa using h5
  have hn : ¬ (nodeOk n = false ∨ idOk i = false ∨ capOk c = false ∨ i = n.id ∨ n.path.contains i = true) := by
    rw [h1', h2', h3', h5']
    simp [h4']
  refine ite_goal (fun h6 => ?_) fun h6 => ?_
  · have h6' : 8 ≤ n.path.length := by simp only [cop_lss_t, cop_lss_f, cop_leq_t, cop_leq_f, cop_gtr_t, cop_gtr_f, cop_geq_t, cop_geq_f, cop_eql_t, cop_eql_f, cop_neq_t, cop_neq_f, Bool.not_eq_true, Bool.not_eq_false, Bool.not_eq_true', Bool.not_eq_false', Bool.and_eq_true, Bool.or_eq_true, decide_eq_true_eq, decide_eq_false_iff_not, Bool.false_eq_true, Bool.true_eq_false, Option.bind_some, Option.some.injEq, false_iff, true_iff, iff_false, iff_true] at h6; omega
    rw [show childErr n i c = 9 from (if_neg hn).trans (if_pos h6')]; rfl
  · have h6' : ¬ 8 ≤ n.path.length := by simp only [cop_lss_t, cop_lss_f, cop_leq_t, cop_leq_f, cop_gtr_t, cop_gtr_f, cop_geq_t, cop_geq_f, cop_eql_t, cop_eql_f, cop_neq_t, cop_neq_f, Bool.not_eq_true, Bool.not_eq_false, Bool.not_eq_true', Bool.not_eq_false', Bool.and_eq_true, Bool.or_eq_true, decide_eq_true_eq, decide_eq_false_iff_not, Bool.false_eq_true, Bool.true_eq_false, Option.bind_some, Option.some.injEq, false_iff, true_iff, iff_false, iff_true] at h6; omega
    rw [show childErr n i c = 0 from (if_neg hn).trans (if_neg h6'), if_pos rfl, s78 n.path (by omega), Option.bind_some, reqK_pos (room_ok (by rw [ids_len]; simp; omega))]
    simp [idCells, idc]

end Go.Proofs.Ytjfhdhplmibnfaa
