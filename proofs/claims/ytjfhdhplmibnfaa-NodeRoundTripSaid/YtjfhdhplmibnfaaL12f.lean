/- Nodes that are made, and their children. -/
import Derived.Test.YtjfhdhplmibnfaaL12e
namespace Go.Proofs.Ytjfhdhplmibnfaa
open Go Go.AM
set_option linter.unusedSimpArgs false
set_option linter.unusedVariables false

def GoodIds (m : List Id) : Prop := (∀ x ∈ m, idOk x = true) ∧ m.Nodup ∧ m.length ≤ 8

theorem idOk_mk (a b c : Int) : idOk ⟨a % 4, 1 + b % 12, c % 3⟩ = true := by simp only [idOk, decide_eq_true_eq]; omega

theorem ints_at {l : List Int} {i : Nat} {z : Int} (h : l[i]? = some z) : (intCells l)[i]? = some (i64c z) := by simp [intCells, h]
theorem ints_len (l : List Int) : (intCells l).length = l.length := by simp [intCells]
theorem elem_i64 {γ : Type} {l : List Int} {i : Int} {z : Int} (k : Int → Option γ) (h0 : 0 ≤ i) (h : l[i.toNat]? = some z) : elemK (intCells l) i [.int .i64] k = k z :=
  elemK_at (sh := [.int .i64]) (r := z) k h0 (ints_at h) rfl

theorem ids_snoc (l : List Id) (x : Id) : idCells l ++ (([] : List (List AV)) ++ [[AV.val (.int .i64 x.core), AV.val (.int .i64 x.op), AV.val (.int .i64 x.part)]]) = idCells (l ++ [x]) := by
  simp [idCells, idc]

theorem l52 {l : List Int} (hl : l.length < 2 ^ 62) : ∀ (j i fuel : Nat) (acc : List Id), l.length = i + j → j < fuel → GoodIds acc → ∃ m, g52L0 fuel (intCells l) (idCells acc) i = some (idCells m) ∧ GoodIds m := by
  intro j
  induction j with
  | zero =>
    intro i fuel acc h hf ha
    obtain ⟨f, rfl⟩ : ∃ f, fuel = f + 1 := ⟨fuel - 1, by omega⟩
    exact ⟨acc, by rw [g52L0_eq, if_neg (by simp only [cop_lss_t, cop_lss_f, cop_leq_t, cop_leq_f, cop_gtr_t, cop_gtr_f, cop_geq_t, cop_geq_f, cop_eql_t, cop_eql_f, cop_neq_t, cop_neq_f, Bool.not_eq_true, Bool.not_eq_false, Bool.not_eq_true', Bool.not_eq_false', Bool.and_eq_true, Bool.or_eq_true, decide_eq_true_eq, decide_eq_false_iff_not, Bool.false_eq_true, Bool.true_eq_false, Option.bind_some, Option.some.injEq, false_iff, true_iff, iff_false, iff_true, ints_len]; omega)], ha⟩
  | succ j ih =>
    intro i fuel acc h hf ha
    obtain ⟨f, rfl⟩ : ∃ f, fuel = f + 1 := ⟨fuel - 1, by omega⟩
    have hi : i < l.length := by omega
    have hat : l[(i : Int).toNat]? = some l[i] := by simp
    have a4 : iop .add .i64 i 1 = ((i + 1 : Nat) : Int) := by rw [add_i (by omega) (by omega)]; omega
    have h8 := ha.2.2
    rw [g52L0_eq, if_pos (by simp only [cop_lss_t, cop_lss_f, cop_leq_t, cop_leq_f, cop_gtr_t, cop_gtr_f, cop_geq_t, cop_geq_f, cop_eql_t, cop_eql_f, cop_neq_t, cop_neq_f, Bool.not_eq_true, Bool.not_eq_false, Bool.not_eq_true', Bool.not_eq_false', Bool.and_eq_true, Bool.or_eq_true, decide_eq_true_eq, decide_eq_false_iff_not, Bool.false_eq_true, Bool.true_eq_false, Option.bind_some, Option.some.injEq, false_iff, true_iff, iff_false, iff_true, ints_len]; omega), ids_len]
    by_cases hlen : acc.length < 8
    · rw [if_pos (by simp only [cop_lss_t, cop_lss_f, cop_leq_t, cop_leq_f, cop_gtr_t, cop_gtr_f, cop_geq_t, cop_geq_f, cop_eql_t, cop_eql_f, cop_neq_t, cop_neq_f, Bool.not_eq_true, Bool.not_eq_false, Bool.not_eq_true', Bool.not_eq_false', Bool.and_eq_true, Bool.or_eq_true, decide_eq_true_eq, decide_eq_false_iff_not, Bool.false_eq_true, Bool.true_eq_false, Option.bind_some, Option.some.injEq, false_iff, true_iff, iff_false, iff_true]; omega), elem_i64 _ (by omega) hat, elem_i64 _ (by omega) hat, reqK_pos (by decide), elem_i64 _ (by omega) hat, reqK_pos (by decide), s51, Option.bind_some]
      dsimp only
      generalize hb : iop .quo .i64 l[i] 4 = b
      generalize hc : iop .quo .i64 l[i] 48 = c
      rw [s54 acc (by omega), Option.bind_some, a4]
      have hid := idOk_mk l[i] b c
      have hsn := ids_snoc acc ⟨l[i] % 4, 1 + b % 12, c % 3⟩
      dsimp only at hsn
      cases hcon : acc.contains (⟨l[i] % 4, 1 + b % 12, c % 3⟩ : Id) with
      | true =>
        rw [if_neg (by simp)]
        exact ih (i + 1) f acc (by omega) (by omega) ha
      | false =>
        rw [if_pos (by simp), reqK_pos (room_ok (by rw [ids_len]; simp; omega)), hsn]
        refine ih (i + 1) f _ (by omega) (by omega) ⟨fun x hx => ?_, ?_, by rw [List.length_append]; simp; omega⟩
        · rcases List.mem_append.1 hx with hx | hx
          · exact ha.1 x hx
          · rw [List.mem_singleton.1 hx]; exact hid
        · rw [List.nodup_append]
          refine ⟨ha.2.1, by simp, fun x hx y hy => ?_⟩
          rw [List.mem_singleton.1 hy]
          intro he
          subst he
          rw [← List.contains_iff_mem, hcon] at hx
          cases hx
    · rw [if_neg (by simp only [cop_lss_t, cop_lss_f, cop_leq_t, cop_leq_f, cop_gtr_t, cop_gtr_f, cop_geq_t, cop_geq_f, cop_eql_t, cop_eql_f, cop_neq_t, cop_neq_f, Bool.not_eq_true, Bool.not_eq_false, Bool.not_eq_true', Bool.not_eq_false', Bool.and_eq_true, Bool.or_eq_true, decide_eq_true_eq, decide_eq_false_iff_not, Bool.false_eq_true, Bool.true_eq_false, Option.bind_some, Option.some.injEq, false_iff, true_iff, iff_false, iff_true]; omega)]
      exact ⟨acc, rfl, ha⟩

theorem s52 (l : List Int) (hl : l.length < 2 ^ 62) : ∃ m, g52 (intCells l) = some (idCells m) ∧ GoodIds m := by
  obtain ⟨m, h1, h2⟩ := l52 hl l.length 0 FUEL [] (by omega) (fuel_lt (by omega)) ⟨by simp, by simp, by simp⟩
  exact ⟨m, by rw [g52_eq]; exact h1, h2⟩

theorem l47 {m : List Id} (hm : GoodIds m) (i : Id) (cp : Cap) (y0 y1 y2 : Int) (y3 : List (List AV)) (y4 y5 y6 y7 y8 y9 : Int) (y10 : Bool) : ∀ (j k fuel : Nat) (p : List Id), m.length = k + j → j < fuel → p.length ≤ k →
    g47L0 fuel y0 y1 y2 y3 y4 y5 y6 y7 y8 y9 y10 i.core i.op i.part (idCells p) cp.kind cp.base cp.bits cp.rights cp.width cp.level cp.device (idCells m) k =
      some (i.core, i.op, i.part, idCells (p ++ (m.drop k).filter fun x => decide (x ≠ i)), cp.kind, cp.base, cp.bits, cp.rights, cp.width, cp.level, cp.device) := by
  have h8 := hm.2.2
  intro j
  induction j with
  | zero =>
    intro k fuel p h hf hp
    obtain ⟨f, rfl⟩ : ∃ f, fuel = f + 1 := ⟨fuel - 1, by omega⟩
    rw [g47L0_eq, if_neg (by simp only [cop_lss_t, cop_lss_f, cop_leq_t, cop_leq_f, cop_gtr_t, cop_gtr_f, cop_geq_t, cop_geq_f, cop_eql_t, cop_eql_f, cop_neq_t, cop_neq_f, Bool.not_eq_true, Bool.not_eq_false, Bool.not_eq_true', Bool.not_eq_false', Bool.and_eq_true, Bool.or_eq_true, decide_eq_true_eq, decide_eq_false_iff_not, Bool.false_eq_true, Bool.true_eq_false, Option.bind_some, Option.some.injEq, false_iff, true_iff, iff_false, iff_true, ids_len]; omega), List.drop_of_length_le (by omega)]
    simp
  | succ j ih =>
    intro k fuel p h hf hp
    obtain ⟨f, rfl⟩ : ∃ f, fuel = f + 1 := ⟨fuel - 1, by omega⟩
    have hi : k < m.length := by omega
    have hat : m[(k : Int).toNat]? = some m[k] := by simp
    have a4 : iop .add .i64 k 1 = ((k + 1 : Nat) : Int) := by rw [add_i (by omega) (by omega)]; omega
    rw [g47L0_eq, if_pos (by simp only [cop_lss_t, cop_lss_f, cop_leq_t, cop_leq_f, cop_gtr_t, cop_gtr_f, cop_geq_t, cop_geq_f, cop_eql_t, cop_eql_f, cop_neq_t, cop_neq_f, Bool.not_eq_true, Bool.not_eq_false, Bool.not_eq_true', Bool.not_eq_false', Bool.and_eq_true, Bool.or_eq_true, decide_eq_true_eq, decide_eq_false_iff_not, Bool.false_eq_true, Bool.true_eq_false, Option.bind_some, Option.some.injEq, false_iff, true_iff, iff_false, iff_true, ids_len]; omega), elem_id _ (by omega) hat, a4, List.drop_eq_getElem_cons hi]
    by_cases he : m[k] = i
    · rw [if_neg (by rw [Bool.not_eq_true', ← Bool.not_eq_true, id_eqb]; exact fun h => h he), ih (k + 1) f p (by omega) (by omega) (by omega), List.filter_cons_of_neg (by simp [he])]
    · have hsn := ids_snoc p m[k]
      rw [if_pos (by rw [Bool.not_eq_true', ← Bool.not_eq_true, id_eqb]; exact he), s56 p (by omega), Option.bind_some, elem_id _ (by omega) hat, reqK_pos (room_ok (by rw [ids_len]; simp; omega))]
      dsimp only
      rw [hsn, ih (k + 1) f _ (by omega) (by omega) (by rw [List.length_append]; simp; omega), List.filter_cons_of_pos (by simp [he])]
      simp [List.append_assoc]

/-- make.Node's node -/
theorem made_ok {m : List Id} (hm : GoodIds m) {i : Id} (hi : idOk i = true) {cp : Cap} (hc : capOk cp = true) : nodeOk ⟨i, m.filter fun x => decide (x ≠ i), cp⟩ = true := by
  obtain ⟨h1, h2, h3⟩ := hm
  have hn : (m.filter fun x => decide (x ≠ i)).Nodup := h2.filter _
  have hl : (m.filter fun x => decide (x ≠ i)).length ≤ 8 := Nat.le_trans (List.length_filter_le _ _) h3
  have hmem : ∀ x ∈ m.filter (fun x => decide (x ≠ i)), idOk x = true ∧ x ≠ i := fun x hx => by
    rw [List.mem_filter] at hx
    exact ⟨h1 x hx.1, by simpa using hx.2⟩
  generalize m.filter (fun x => decide (x ≠ i)) = p at *
  simp only [nodeOk, Bool.and_eq_true, decide_eq_true_eq, List.all_eq_true, List.mem_range]
  refine ⟨⟨⟨hi, hc⟩, hl⟩, fun k hk => ?_⟩
  unfold pathAt
  rw [List.getElem?_eq_getElem hk]
  obtain ⟨a1, a2⟩ := hmem p[k] (List.getElem_mem hk)
  simp only [Bool.and_eq_true, decide_eq_true_eq, Bool.not_eq_true', ← Bool.not_eq_true, List.contains_iff_mem]
  refine ⟨⟨a1, a2⟩, fun hin => ?_⟩
  obtain ⟨j, hj⟩ := List.mem_iff_getElem?.1 hin
  rw [List.getElem?_take] at hj
  split at hj
  · rename_i hjk
    have hjl : j < p.length := by omega
    rw [List.getElem?_eq_getElem hjl] at hj
    simp only [Option.some.injEq] at hj
    exact (List.pairwise_iff_getElem.1 hn) j k hjl hk hjk hj
  · cases hj

theorem s47 (a b c : Int) (l : List Int) (hl : l.length < 2 ^ 62) (cp : Cap) (hc : capOk cp = true) : ∃ n : Node, nodeOk n = true ∧ n.cap = cp ∧
    g47 a b c (intCells l) cp.kind cp.base cp.bits cp.rights cp.width cp.level cp.device = some (n.id.core, n.id.op, n.id.part, idCells n.path, n.cap.kind, n.cap.base, n.cap.bits, n.cap.rights, n.cap.width, n.cap.level, n.cap.device) := by
  obtain ⟨m, h1, h2⟩ := s52 l hl
  have h8 := h2.2.2
  refine ⟨⟨⟨a % 4, 1 + b % 12, c % 3⟩, m.filter fun x => decide (x ≠ ⟨a % 4, 1 + b % 12, c % 3⟩), cp⟩, made_ok h2 (idOk_mk a b c) hc, rfl, ?_⟩
  rw [g47_eq, s51, Option.bind_some, h1, Option.bind_some]
  have := l47 h2 ⟨a % 4, 1 + b % 12, c % 3⟩ cp 0 0 0 ([] : List (List AV)) 0 0 0 0 0 0 false m.length 0 FUEL [] (by omega) (fuel_lt (by omega)) (Nat.le_refl _)
  exact this

theorem child_good {n : Node} {i : Id} {c : Cap} (h : childErr n i c = 0) : nodeOk n = true ∧ idOk i = true ∧ capOk c = true ∧ i ≠ n.id ∧ i ∉ n.path ∧ n.path.length < 8 := by
  unfold childErr at h
  split at h
  · cases h
  · rename_i hn
    split at h
    · cases h
    · rename_i h8
      refine ⟨?_, ?_, ?_, ?_, ?_, by omega⟩
      · cases hh : nodeOk n with
        | true => rfl
        | false => exact (hn (.inl hh)).elim
      · cases hh : idOk i with
        | true => rfl
        | false => exact (hn (.inr (.inl hh))).elim
      · cases hh : capOk c with
        | true => rfl
        | false => exact (hn (.inr (.inr (.inl hh)))).elim
      · exact fun hh => hn (.inr (.inr (.inr (.inl hh))))
      · exact fun hh => hn (.inr (.inr (.inr (.inr (List.contains_iff_mem.2 hh)))))

theorem child_ok {n : Node} {i : Id} {c : Cap} (h : childErr n i c = 0) : nodeOk ⟨i, n.path ++ [n.id], c⟩ = true := by
  obtain ⟨h1, h2, h3, h4, h5, h6⟩ := child_good h
  obtain ⟨g1, g2, g3, g4⟩ := node_of h1
  simp only [nodeOk, Bool.and_eq_true, decide_eq_true_eq, List.all_eq_true, List.mem_range]
  refine ⟨⟨⟨h2, h3⟩, by simp; omega⟩, fun k hk => ?_⟩
  unfold pathAt
  dsimp only
  by_cases hkp : k < n.path.length
  · have hg := g4 k hkp
    unfold pathAt at hg
    rw [List.getElem?_append_left hkp, List.take_append_of_le_length (by omega)]
    rw [List.getElem?_eq_getElem hkp] at hg ⊢
    simp only [Bool.and_eq_true, decide_eq_true_eq] at hg ⊢
    exact ⟨⟨hg.1.1, fun he => h5 (he ▸ List.getElem_mem hkp)⟩, hg.2⟩
  · have hke : k = n.path.length := by simp at hk; omega
    subst hke
    rw [List.getElem?_append_right (Nat.le_refl _), Nat.sub_self, List.getElem?_cons_zero, List.take_append_of_le_length (Nat.le_refl _), List.take_length]
    simp only [Bool.and_eq_true, decide_eq_true_eq, Bool.not_eq_true', ← Bool.not_eq_true, List.contains_iff_mem]
    refine ⟨⟨g1, fun he => h4 he.symm⟩, fun hin => ?_⟩
    obtain ⟨j, hj⟩ := List.mem_iff_getElem?.1 hin
    have hg := g4 j (List.getElem?_eq_some_iff.1 hj).1
    unfold pathAt at hg
    rw [hj] at hg
    simp at hg

theorem l13 {n ch : Node} (hl : n.path.length ≤ 8) (hcl : ch.path.length ≤ 9) (hsub : ∀ x ∈ n.path, x ∈ ch.path) (hch : ch.path = n.path ++ [n.id]) (o : Id) : ∀ (j k fuel : Nat), n.path.length = k + j → j < fuel →
    g13L0 fuel o.core o.op o.part n.id.core n.id.op n.id.part (idCells n.path) n.cap.kind n.cap.base n.cap.bits n.cap.rights n.cap.width n.cap.level n.cap.device
      ch.id.core ch.id.op ch.id.part (idCells ch.path) ch.cap.kind ch.cap.base ch.cap.bits ch.cap.rights ch.cap.width ch.cap.level ch.cap.device k = some true := by
  intro j
  induction j with
  | zero =>
    intro k fuel h hf
    obtain ⟨f, rfl⟩ : ∃ f, fuel = f + 1 := ⟨fuel - 1, by omega⟩
    rw [g13L0_eq, if_neg (by simp only [cop_lss_t, cop_lss_f, cop_leq_t, cop_leq_f, cop_gtr_t, cop_gtr_f, cop_geq_t, cop_geq_f, cop_eql_t, cop_eql_f, cop_neq_t, cop_neq_f, Bool.not_eq_true, Bool.not_eq_false, Bool.not_eq_true', Bool.not_eq_false', Bool.and_eq_true, Bool.or_eq_true, decide_eq_true_eq, decide_eq_false_iff_not, Bool.false_eq_true, Bool.true_eq_false, Option.bind_some, Option.some.injEq, false_iff, true_iff, iff_false, iff_true, ids_len]; omega), s50 ch (by omega), s50 n (by omega), Option.bind_some, Option.bind_some, s42]
    have e : (⟨o.core, o.op, o.part⟩ : Id) = o := rfl
    rw [e, hch]
    by_cases he : o = n.id
    · rw [if_pos (by rw [id_eqb]; exact he), if_pos (by simp [he])]
      rfl
    · have hc : (n.path ++ [n.id]).contains o = n.path.contains o := by
        rw [bool_iff, List.contains_iff_mem, List.contains_iff_mem, List.mem_append, List.mem_singleton]
        exact ⟨fun h => h.elim id fun h => (he h).elim, .inl⟩
      rw [if_neg (by rw [id_eqb]; exact he), hc, if_pos (by simp)]
      rfl
  | succ j ih =>
    intro k fuel h hf
    obtain ⟨f, rfl⟩ : ∃ f, fuel = f + 1 := ⟨fuel - 1, by omega⟩
    have hi : k < n.path.length := by omega
    have hat : n.path[(k : Int).toNat]? = some n.path[k] := by simp
    have a4 : iop .add .i64 k 1 = ((k + 1 : Nat) : Int) := by rw [add_i (by omega) (by omega)]; omega
    have hin : ch.path.contains n.path[k] = true := List.contains_iff_mem.2 (hsub _ (List.getElem_mem hi))
    rw [g13L0_eq, if_pos (by simp only [cop_lss_t, cop_lss_f, cop_leq_t, cop_leq_f, cop_gtr_t, cop_gtr_f, cop_geq_t, cop_geq_f, cop_eql_t, cop_eql_f, cop_neq_t, cop_neq_f, Bool.not_eq_true, Bool.not_eq_false, Bool.not_eq_true', Bool.not_eq_false', Bool.and_eq_true, Bool.or_eq_true, decide_eq_true_eq, decide_eq_false_iff_not, Bool.false_eq_true, Bool.true_eq_false, Option.bind_some, Option.some.injEq, false_iff, true_iff, iff_false, iff_true, ids_len]; omega), elem_id _ (by omega) hat, s50 ch (by omega), Option.bind_some, a4, if_neg]
    · exact ih (k + 1) f (by omega) (by omega)
    · have e : (⟨n.path[k].core, n.path[k].op, n.path[k].part⟩ : Id) = n.path[k] := rfl
      rw [e, hin]
      simp

theorem s13 (a b c : Int) (p : List Int) (i o : Id) : g13 a b c (intCells p) i.core i.op i.part o.core o.op o.part = some true := by
  rw [g13_eq, ints_len, s42, Option.bind_some]
  refine ite_goal (fun _ => rfl) fun h => ?_
  have hp : p.length ≤ 40 := by simp only [cop_lss_t, cop_lss_f, cop_leq_t, cop_leq_f, cop_gtr_t, cop_gtr_f, cop_geq_t, cop_geq_f, cop_eql_t, cop_eql_f, cop_neq_t, cop_neq_f, Bool.not_eq_true, Bool.not_eq_false, Bool.not_eq_true', Bool.not_eq_false', Bool.and_eq_true, Bool.or_eq_true, decide_eq_true_eq, decide_eq_false_iff_not, Bool.false_eq_true, Bool.true_eq_false, Option.bind_some, Option.some.injEq, false_iff, true_iff, iff_false, iff_true] at h; omega
  obtain ⟨n, h1, h2, h3⟩ := s47 a b c p (by omega) page (by decide)
  obtain ⟨g1, g2, g3, g4⟩ := node_of h1
  have q43 := s43 n (by omega) i page
  rw [s48, Option.bind_some]
  dsimp only
  rw [h3, Option.bind_some, Option.bind_some]
  dsimp only
  rw [q43, Option.bind_some]
  by_cases he : childErr n i page = 0
  · have q49 := s49 ⟨i, n.path ++ [n.id], page⟩ (by simp; omega)
    have q50 := s50 ⟨i, n.path ++ [n.id], page⟩ (by simp; omega) n.id.core n.id.op n.id.part
    have hcon : (n.path ++ [n.id]).contains (⟨n.id.core, n.id.op, n.id.part⟩ : Id) = true := List.contains_iff_mem.2 (by simp)
    dsimp only at q49 q50
    rw [child_ok he] at q49
    rw [hcon] at q50
    rw [if_pos he]
    dsimp only
    rw [if_neg (by decide), q49, Option.bind_some, if_neg (by decide), q50, Option.bind_some, if_neg (by decide), if_neg (by simp [cop]), Option.bind_some]
    dsimp only
    rw [if_neg (by decide)]
    exact l13 (n := n) (ch := ⟨i, n.path ++ [n.id], page⟩) (by omega) (by simp; omega) (fun x hx => by simp [hx]) rfl o n.path.length 0 FUEL (by omega) (fuel_lt (by omega))
  · rw [if_neg he]
    dsimp only
    rw [if_pos (by simp only [cop_lss_t, cop_lss_f, cop_leq_t, cop_leq_f, cop_gtr_t, cop_gtr_f, cop_geq_t, cop_geq_f, cop_eql_t, cop_eql_f, cop_neq_t, cop_neq_f, Bool.not_eq_true, Bool.not_eq_false, Bool.not_eq_true', Bool.not_eq_false', Bool.and_eq_true, Bool.or_eq_true, decide_eq_true_eq, decide_eq_false_iff_not, Bool.false_eq_true, Bool.true_eq_false, Option.bind_some, Option.some.injEq, false_iff, true_iff, iff_false, iff_true]; exact he), if_pos (by decide)]

end Go.Proofs.Ytjfhdhplmibnfaa
