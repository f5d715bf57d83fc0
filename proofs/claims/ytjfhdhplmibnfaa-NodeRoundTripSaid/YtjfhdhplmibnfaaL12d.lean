/- Child is as the reference says. -/
import Derived.Test.YtjfhdhplmibnfaaL12b
namespace Go.Proofs.Ytjfhdhplmibnfaa
open Go Go.AM
set_option linter.unusedSimpArgs false
set_option linter.unusedVariables false

theorem s59 (a b c : Int) : g59 a b c = some (idOk ⟨a, b, c⟩) := by
  rw [g59_eq]
  repeat' split
  all_goals (refine congrArg some ?_; rw [bool_iff]; simp only [idOk, cop_lss_t, cop_lss_f, cop_leq_t, cop_leq_f, cop_gtr_t, cop_gtr_f, cop_geq_t, cop_geq_f, cop_eql_t, cop_eql_f, cop_neq_t, cop_neq_f, Bool.not_eq_true, Bool.not_eq_false, Bool.not_eq_true', Bool.not_eq_false', Bool.and_eq_true, Bool.or_eq_true, decide_eq_true_eq, decide_eq_false_iff_not, Bool.false_eq_true, Bool.true_eq_false, Option.bind_some, Option.some.injEq, false_iff, true_iff, iff_false, iff_true] at *; omega)

theorem l54 {l : List Id} (hl : l.length < 2 ^ 62) (a b c : Int) : ∀ (j i fuel : Nat), l.length = i + j → j < fuel → g54L0 fuel (idCells l) a b c i = some ((l.drop i).contains ⟨a, b, c⟩) := by
  intro j
  induction j with
  | zero =>
    intro i fuel h hf
    obtain ⟨f, rfl⟩ : ∃ f, fuel = f + 1 := ⟨fuel - 1, by omega⟩
    rw [g54L0_eq, if_neg (by simp only [cop_lss_t, cop_lss_f, cop_leq_t, cop_leq_f, cop_gtr_t, cop_gtr_f, cop_geq_t, cop_geq_f, cop_eql_t, cop_eql_f, cop_neq_t, cop_neq_f, Bool.not_eq_true, Bool.not_eq_false, Bool.not_eq_true', Bool.not_eq_false', Bool.and_eq_true, Bool.or_eq_true, decide_eq_true_eq, decide_eq_false_iff_not, Bool.false_eq_true, Bool.true_eq_false, Option.bind_some, Option.some.injEq, false_iff, true_iff, iff_false, iff_true, ids_len]; omega), List.drop_of_length_le (by omega)]
    rfl
  | succ j ih =>
    intro i fuel h hf
    obtain ⟨f, rfl⟩ : ∃ f, fuel = f + 1 := ⟨fuel - 1, by omega⟩
    have hi : i < l.length := by omega
    have hat : l[(i : Int).toNat]? = some l[i] := by simp
    have a4 : iop .add .i64 i 1 = ((i + 1 : Nat) : Int) := by rw [add_i (by omega) (by omega)]; omega
    rw [g54L0_eq, if_pos (by simp only [cop_lss_t, cop_lss_f, cop_leq_t, cop_leq_f, cop_gtr_t, cop_gtr_f, cop_geq_t, cop_geq_f, cop_eql_t, cop_eql_f, cop_neq_t, cop_neq_f, Bool.not_eq_true, Bool.not_eq_false, Bool.not_eq_true', Bool.not_eq_false', Bool.and_eq_true, Bool.or_eq_true, decide_eq_true_eq, decide_eq_false_iff_not, Bool.false_eq_true, Bool.true_eq_false, Option.bind_some, Option.some.injEq, false_iff, true_iff, iff_false, iff_true, ids_len]; omega), elem_id _ (by omega) hat, a4, List.drop_eq_getElem_cons hi, List.contains_cons]
    by_cases he : l[i] = (⟨a, b, c⟩ : Id)
    · rw [if_pos (by rw [id_eqb]; exact he)]
      simp [he]
    · rw [if_neg (by rw [id_eqb]; exact he), ih (i + 1) f (by omega) (by omega)]
      have : ((⟨a, b, c⟩ : Id) == l[i]) = false := by simp; exact fun h => he h.symm
      rw [this, Bool.false_or]

theorem s54 (l : List Id) (hl : l.length < 2 ^ 62) (a b c : Int) : g54 (idCells l) a b c = some (l.contains ⟨a, b, c⟩) := by
  have := l54 hl a b c l.length 0 FUEL (by omega) (fuel_lt (by omega))
  rw [g54_eq]
  exact this

def pathRef (n : Node) (i : Nat) : Bool := match n.path[i]? with | none => true | some x => idOk x && !(n.path.take i).contains x

theorem nodeOk_ref (n : Node) : nodeOk n = (idOk n.id && capOk n.cap && decide (n.path.length ≤ 8) && (!n.path.contains n.id && (List.range n.path.length).all (pathRef n))) := by
  unfold nodeOk
  congr 1
  rw [bool_iff]
  simp only [Bool.and_eq_true, List.all_eq_true, List.mem_range, Bool.not_eq_true', ← Bool.not_eq_true, List.contains_iff_mem]
  constructor
  · intro h
    refine ⟨fun hc => ?_, fun i hi => ?_⟩
    · obtain ⟨i, hi⟩ := List.mem_iff_getElem?.1 hc
      have := h i (List.getElem?_eq_some_iff.1 hi).1
      unfold pathAt at this
      rw [hi] at this
      simp at this
    · have := h i hi
      unfold pathAt at this
      unfold pathRef
      rw [List.getElem?_eq_getElem hi] at this ⊢
      simp only [Bool.and_eq_true] at this ⊢
      exact ⟨this.1.1, this.2⟩
  · intro ⟨h1, h2⟩ i hi
    have := h2 i hi
    unfold pathRef at this
    unfold pathAt
    rw [List.getElem?_eq_getElem hi] at this ⊢
    simp only [Bool.and_eq_true, decide_eq_true_eq] at this ⊢
    exact ⟨⟨this.1, fun he => h1 (he ▸ List.getElem_mem hi)⟩, this.2⟩

theorem l60 (n : Node) (hl : n.path.length < 2 ^ 62) : ∀ (j i fuel : Nat), n.path.length = i + j → j < fuel →
    g60L0 fuel n.id.core n.id.op n.id.part (idCells n.path) n.cap.kind n.cap.base n.cap.bits n.cap.rights n.cap.width n.cap.level n.cap.device i = some ((List.range' i j).all (pathRef n)) := by
  intro j
  induction j with
  | zero =>
    intro i fuel h hf
    obtain ⟨f, rfl⟩ : ∃ f, fuel = f + 1 := ⟨fuel - 1, by omega⟩
    rw [g60L0_eq, if_neg (by simp only [cop_lss_t, cop_lss_f, cop_leq_t, cop_leq_f, cop_gtr_t, cop_gtr_f, cop_geq_t, cop_geq_f, cop_eql_t, cop_eql_f, cop_neq_t, cop_neq_f, Bool.not_eq_true, Bool.not_eq_false, Bool.not_eq_true', Bool.not_eq_false', Bool.and_eq_true, Bool.or_eq_true, decide_eq_true_eq, decide_eq_false_iff_not, Bool.false_eq_true, Bool.true_eq_false, Option.bind_some, Option.some.injEq, false_iff, true_iff, iff_false, iff_true, ids_len]; omega)]
    rfl
  | succ j ih =>
    intro i fuel h hf
    obtain ⟨f, rfl⟩ : ∃ f, fuel = f + 1 := ⟨fuel - 1, by omega⟩
    have hi : i < n.path.length := by omega
    have hat : n.path[(i : Int).toNat]? = some n.path[i] := by simp
    have a4 : iop .add .i64 i 1 = ((i + 1 : Nat) : Int) := by rw [add_i (by omega) (by omega)]; omega
    have hp : pathRef n i = (idOk n.path[i] && !(n.path.take i).contains n.path[i]) := by
      unfold pathRef
      rw [List.getElem?_eq_getElem hi]
    have hlt : (n.path.take i).length < 2 ^ 62 := by rw [List.length_take]; omega
    rw [g60L0_eq, if_pos (by simp only [cop_lss_t, cop_lss_f, cop_leq_t, cop_leq_f, cop_gtr_t, cop_gtr_f, cop_geq_t, cop_geq_f, cop_eql_t, cop_eql_f, cop_neq_t, cop_neq_f, Bool.not_eq_true, Bool.not_eq_false, Bool.not_eq_true', Bool.not_eq_false', Bool.and_eq_true, Bool.or_eq_true, decide_eq_true_eq, decide_eq_false_iff_not, Bool.false_eq_true, Bool.true_eq_false, Option.bind_some, Option.some.injEq, false_iff, true_iff, iff_false, iff_true, ids_len]; omega), elem_id _ (by omega) hat, a4, List.range'_succ, List.all_cons, hp]
    simp only [s59, Option.bind_some]
    cases h1 : idOk n.path[i] with
    | false => simp
    | true =>
      rw [if_neg (by simp), reqK_pos (by omega), reqK_pos (by rw [ids_len]; omega), elem_id _ (by omega) hat, Int.toNat_natCast, ids_take, s54 _ hlt, Option.bind_some]
      cases h3 : (n.path.take i).contains n.path[i] with
      | true => simp
      | false =>
        rw [if_neg (by simp)]
        have := ih (i + 1) f (by omega) (by omega)
        rw [this]
        simp

theorem s60 (n : Node) (hl : n.path.length < 2 ^ 62) : g60 n.id.core n.id.op n.id.part (idCells n.path) n.cap.kind n.cap.base n.cap.bits n.cap.rights n.cap.width n.cap.level n.cap.device = some (nodeOk n) := by
  rw [g60_eq, nodeOk_ref]
  simp only [s59, s33, Option.bind_some, ids_len, s54 _ hl]
  cases h1 : idOk n.id with
  | false => simp [show (⟨n.id.core, n.id.op, n.id.part⟩ : Id) = n.id from rfl, h1]
  | true =>
    cases h2 : capOk n.cap with
    | false => simp [show (⟨n.id.core, n.id.op, n.id.part⟩ : Id) = n.id from rfl, h1, show (⟨n.cap.kind, n.cap.base, n.cap.bits, n.cap.rights, n.cap.width, n.cap.level, n.cap.device⟩ : Cap) = n.cap from rfl, h2]
    | true =>
      rw [if_neg (by simp), if_neg (by simp)]
      by_cases h3 : n.path.length ≤ 8
      · rw [if_neg (by simp only [cop_lss_t, cop_lss_f, cop_leq_t, cop_leq_f, cop_gtr_t, cop_gtr_f, cop_geq_t, cop_geq_f, cop_eql_t, cop_eql_f, cop_neq_t, cop_neq_f, Bool.not_eq_true, Bool.not_eq_false, Bool.not_eq_true', Bool.not_eq_false', Bool.and_eq_true, Bool.or_eq_true, decide_eq_true_eq, decide_eq_false_iff_not, Bool.false_eq_true, Bool.true_eq_false, Option.bind_some, Option.some.injEq, false_iff, true_iff, iff_false, iff_true]; omega)]
        cases h4 : n.path.contains n.id with
        | true => simp
        | false =>
          rw [if_neg (by simp)]
          have := l60 n hl n.path.length 0 FUEL (by omega) (fuel_lt (by omega))
          have e : (List.range' 0 n.path.length) = List.range n.path.length := (List.range_eq_range' ..).symm
          rw [e] at this
          refine this.trans ?_
          simp [h3]
      · rw [if_pos (by simp only [cop_lss_t, cop_lss_f, cop_leq_t, cop_leq_f, cop_gtr_t, cop_gtr_f, cop_geq_t, cop_geq_f, cop_eql_t, cop_eql_f, cop_neq_t, cop_neq_f, Bool.not_eq_true, Bool.not_eq_false, Bool.not_eq_true', Bool.not_eq_false', Bool.and_eq_true, Bool.or_eq_true, decide_eq_true_eq, decide_eq_false_iff_not, Bool.false_eq_true, Bool.true_eq_false, Option.bind_some, Option.some.injEq, false_iff, true_iff, iff_false, iff_true]; omega)]
        simp [h3]

theorem s56 (l : List Id) (hl : l.length ≤ 1000000) : g56 (idCells l) = some (idCells l) := by
  rw [g56_eq, reqK_pos (room_ok (by rw [ids_len, List.length_nil]; omega))]

theorem s44 (n : Node) (hl : n.path.length ≤ 1000000) : g44 n.id.core n.id.op n.id.part (idCells n.path) n.cap.kind n.cap.base n.cap.bits n.cap.rights n.cap.width n.cap.level n.cap.device =
    some (n.id.core, n.id.op, n.id.part, idCells n.path, n.cap.kind, n.cap.base, n.cap.bits, n.cap.rights, n.cap.width, n.cap.level, n.cap.device) := by
  rw [g44_eq, s56 _ hl, Option.bind_some]

/-- multikernelref10.Child -/
theorem s45 (n : Node) (hl : n.path.length < 2 ^ 62) (i : Id) (c : Cap) :
    g45 n.id.core n.id.op n.id.part (idCells n.path) n.cap.kind n.cap.base n.cap.bits n.cap.rights n.cap.width n.cap.level n.cap.device i.core i.op i.part c.kind c.base c.bits c.rights c.width c.level c.device =
      some (if childErr n i c = 0 then (i.core, i.op, i.part, idCells (n.path ++ [n.id]), c.kind, c.base, c.bits, c.rights, c.width, c.level, c.device, 0) else (0, 0, 0, [], 0, 0, 0, 0, 0, 0, false, childErr n i c)) := by
  rw [g45_eq]
  simp only [s60 n hl, s59, s33, s54 _ hl, Option.bind_some, ids_len]
  refine ite_goal (fun h1 => ?_) fun h1 => ?_
  · have h1' : nodeOk n = false := by simpa using h1
    rw [show childErr n i c = 1 from if_pos (.inl h1')]; rfl
  have h1' : nodeOk n = true := by simpa using h1
  have h8 := (node_of h1').2.2.1
  refine ite_goal (fun h2 => ?_) fun h2 => ?_
  · have h2' : idOk i = false := by simpa using h2
    rw [show childErr n i c = 1 from if_pos (.inr (.inl h2'))]; rfl
  have h2' : idOk i = true := by simpa using h2
  refine ite_goal (fun h3 => ?_) fun h3 => ?_
  · have h3' : capOk c = false := by simpa using h3
    rw [show childErr n i c = 1 from if_pos (.inr (.inr (.inl h3')))]; rfl
  have h3' : capOk c = true := by simpa using h3
  refine ite_goal (fun h4 => ?_) fun h4 => ?_
  · have h4' : i = n.id := by rw [id_eqb] at h4; exact h4
    rw [show childErr n i c = 1 from if_pos (.inr (.inr (.inr (.inl h4'))))]; rfl
  have h4' : ¬ i = n.id := by rw [id_eqb] at h4; exact h4
  refine ite_goal (fun h5 => ?_) fun h5 => ?_
  · have h5' : n.path.contains i = true := h5
    rw [show childErr n i c = 1 from if_pos (.inr (.inr (.inr (.inr h5'))))]; rfl
  have h5' : n.path.contains i = false := by simpa using h5
  have hn : ¬ (nodeOk n = false ∨ idOk i = false ∨ capOk c = false ∨ i = n.id ∨ n.path.contains i = true) := by
    rw [h1', h2', h3', h5']
    simp [h4']
  refine ite_goal (fun h6 => ?_) fun h6 => ?_
  · have h6' : 8 ≤ n.path.length := by simp only [cop_lss_t, cop_lss_f, cop_leq_t, cop_leq_f, cop_gtr_t, cop_gtr_f, cop_geq_t, cop_geq_f, cop_eql_t, cop_eql_f, cop_neq_t, cop_neq_f, Bool.not_eq_true, Bool.not_eq_false, Bool.not_eq_true', Bool.not_eq_false', Bool.and_eq_true, Bool.or_eq_true, decide_eq_true_eq, decide_eq_false_iff_not, Bool.false_eq_true, Bool.true_eq_false, Option.bind_some, Option.some.injEq, false_iff, true_iff, iff_false, iff_true] at h6; omega
    rw [show childErr n i c = 9 from (if_neg hn).trans (if_pos h6')]; rfl
  · have h6' : ¬ 8 ≤ n.path.length := by simp only [cop_lss_t, cop_lss_f, cop_leq_t, cop_leq_f, cop_gtr_t, cop_gtr_f, cop_geq_t, cop_geq_f, cop_eql_t, cop_eql_f, cop_neq_t, cop_neq_f, Bool.not_eq_true, Bool.not_eq_false, Bool.not_eq_true', Bool.not_eq_false', Bool.and_eq_true, Bool.or_eq_true, decide_eq_true_eq, decide_eq_false_iff_not, Bool.false_eq_true, Bool.true_eq_false, Option.bind_some, Option.some.injEq, false_iff, true_iff, iff_false, iff_true] at h6; omega
    rw [show childErr n i c = 0 from (if_neg hn).trans (if_neg h6'), if_pos rfl, s56 n.path (by omega), Option.bind_some, reqK_pos (room_ok (by rw [ids_len]; simp; omega))]
    simp [idCells, idc]

theorem l79 {l m : List Id} (hl : l.length < 2 ^ 62) (hm : l.length = m.length) : ∀ (j i fuel : Nat), l.length = i + j → j < fuel → g79L0 fuel (idCells l) (idCells m) i = some (decide (l.drop i = m.drop i)) := by
  intro j
  induction j with
  | zero =>
    intro i fuel h hf
    obtain ⟨f, rfl⟩ : ∃ f, fuel = f + 1 := ⟨fuel - 1, by omega⟩
    rw [g79L0_eq, if_neg (by simp only [cop_lss_t, cop_lss_f, cop_leq_t, cop_leq_f, cop_gtr_t, cop_gtr_f, cop_geq_t, cop_geq_f, cop_eql_t, cop_eql_f, cop_neq_t, cop_neq_f, Bool.not_eq_true, Bool.not_eq_false, Bool.not_eq_true', Bool.not_eq_false', Bool.and_eq_true, Bool.or_eq_true, decide_eq_true_eq, decide_eq_false_iff_not, Bool.false_eq_true, Bool.true_eq_false, Option.bind_some, Option.some.injEq, false_iff, true_iff, iff_false, iff_true, ids_len]; omega), List.drop_of_length_le (by omega), List.drop_of_length_le (by omega)]
    rfl
  | succ j ih =>
    intro i fuel h hf
    obtain ⟨f, rfl⟩ : ∃ f, fuel = f + 1 := ⟨fuel - 1, by omega⟩
    have hi : i < l.length := by omega
    have hi' : i < m.length := by omega
    have hat : l[(i : Int).toNat]? = some l[i] := by simp
    have hat' : m[(i : Int).toNat]? = some m[i] := by simp
    have a4 : iop .add .i64 i 1 = ((i + 1 : Nat) : Int) := by rw [add_i (by omega) (by omega)]; omega
    rw [g79L0_eq, if_pos (by simp only [cop_lss_t, cop_lss_f, cop_leq_t, cop_leq_f, cop_gtr_t, cop_gtr_f, cop_geq_t, cop_geq_f, cop_eql_t, cop_eql_f, cop_neq_t, cop_neq_f, Bool.not_eq_true, Bool.not_eq_false, Bool.not_eq_true', Bool.not_eq_false', Bool.and_eq_true, Bool.or_eq_true, decide_eq_true_eq, decide_eq_false_iff_not, Bool.false_eq_true, Bool.true_eq_false, Option.bind_some, Option.some.injEq, false_iff, true_iff, iff_false, iff_true, ids_len]; omega), elem_id _ (by omega) hat, elem_id _ (by omega) hat', a4, List.drop_eq_getElem_cons hi, List.drop_eq_getElem_cons hi']
    by_cases he : l[i] = m[i]
    · rw [if_neg (by rw [Bool.not_eq_true', ← Bool.not_eq_true, id_eqb]; exact fun h => h he), ih (i + 1) f (by omega) (by omega)]
      simp only [he, List.cons.injEq, true_and]
    · rw [if_pos (by rw [Bool.not_eq_true', ← Bool.not_eq_true, id_eqb]; exact he)]
      simp only [List.cons.injEq, he, false_and, decide_false]

theorem s79 (l m : List Id) (hl : l.length < 2 ^ 62) (hm : m.length < 2 ^ 62) : g79 (idCells l) (idCells m) = some (decide (l = m)) := by
  rw [g79_eq, ids_len, ids_len]
  by_cases h : l.length = m.length
  · rw [if_neg (by simp only [cop_lss_t, cop_lss_f, cop_leq_t, cop_leq_f, cop_gtr_t, cop_gtr_f, cop_geq_t, cop_geq_f, cop_eql_t, cop_eql_f, cop_neq_t, cop_neq_f, Bool.not_eq_true, Bool.not_eq_false, Bool.not_eq_true', Bool.not_eq_false', Bool.and_eq_true, Bool.or_eq_true, decide_eq_true_eq, decide_eq_false_iff_not, Bool.false_eq_true, Bool.true_eq_false, Option.bind_some, Option.some.injEq, false_iff, true_iff, iff_false, iff_true]; omega)]
    have := l79 hl h l.length 0 FUEL (by omega) (fuel_lt (by omega))
    rw [List.drop_zero, List.drop_zero] at this
    exact this
  · rw [if_pos (by simp only [cop_lss_t, cop_lss_f, cop_leq_t, cop_leq_f, cop_gtr_t, cop_gtr_f, cop_geq_t, cop_geq_f, cop_eql_t, cop_eql_f, cop_neq_t, cop_neq_f, Bool.not_eq_true, Bool.not_eq_false, Bool.not_eq_true', Bool.not_eq_false', Bool.and_eq_true, Bool.or_eq_true, decide_eq_true_eq, decide_eq_false_iff_not, Bool.false_eq_true, Bool.true_eq_false, Option.bind_some, Option.some.injEq, false_iff, true_iff, iff_false, iff_true]; omega)]
    have : ¬ l = m := fun he => h (by rw [he])
    simp [this]

theorem s46 (a b c : Int) (l : List Id) (hl : l.length < 2 ^ 62) (k bs s r w lv : Int) (d : Bool) : g46 a b c (idCells l) k bs s r w lv d a b c (idCells l) k bs s r w lv d = some true := by
  rw [g46_eq, s79 l l hl hl, if_pos (by simp [cop]), if_pos (by simp [cop]), Option.bind_some]
  simp

theorem s12 (a b c : Int) (p : List Id) (k bs s r w lv : Int) (d : Bool) (a' b' c' : Int) (k' bs' s' r' w' lv' : Int) (d' : Bool) : g12 a b c (idCells p) k bs s r w lv d a' b' c' k' bs' s' r' w' lv' d' = some true := by
  rw [g12_eq, ids_len, s42, Option.bind_some]
  refine ite_goal (fun _ => rfl) fun h => ?_
  have hp : p.length ≤ 40 := by simp only [cop_lss_t, cop_lss_f, cop_leq_t, cop_leq_f, cop_gtr_t, cop_gtr_f, cop_geq_t, cop_geq_f, cop_eql_t, cop_eql_f, cop_neq_t, cop_neq_f, Bool.not_eq_true, Bool.not_eq_false, Bool.not_eq_true', Bool.not_eq_false', Bool.and_eq_true, Bool.or_eq_true, decide_eq_true_eq, decide_eq_false_iff_not, Bool.false_eq_true, Bool.true_eq_false, Option.bind_some, Option.some.injEq, false_iff, true_iff, iff_false, iff_true] at h; omega
  have q44 := s44 ⟨⟨a, b, c⟩, p, ⟨k, bs, s, r, w, lv, d⟩⟩ (by show p.length ≤ _; omega)
  have q43 := s43 ⟨⟨a, b, c⟩, p, ⟨k, bs, s, r, w, lv, d⟩⟩ (by show p.length < _; omega) ⟨a', b', c'⟩ ⟨k', bs', s', r', w', lv', d'⟩
  have q45 := s45 ⟨⟨a, b, c⟩, p, ⟨k, bs, s, r, w, lv, d⟩⟩ (by show p.length < _; omega) ⟨a', b', c'⟩ ⟨k', bs', s', r', w', lv', d'⟩
  dsimp only at q43 q44 q45
  rw [q44, Option.bind_some]
  dsimp only
  rw [q43, q45, Option.bind_some, Option.bind_some]
  generalize childErr ⟨⟨a, b, c⟩, p, ⟨k, bs, s, r, w, lv, d⟩⟩ ⟨a', b', c'⟩ ⟨k', bs', s', r', w', lv', d'⟩ = e
  by_cases he : e = 0
  · rw [if_pos he]
    dsimp only
    rw [s46 _ _ _ _ (by simp; omega), Option.bind_some, if_pos rfl, if_pos (by simp [cop])]
  · rw [if_neg he]
    dsimp only
    have e0 : ([] : List (List AV)) = idCells [] := rfl
    rw [e0, s46 _ _ _ _ (by simp), Option.bind_some, if_pos rfl, if_pos (by simp [cop])]

end Go.Proofs.Ytjfhdhplmibnfaa
