/- The program's decoder of nodes. -/
import Derived.Test.YtjfhdhplmibnfaaL12i
namespace Go.Proofs.Ytjfhdhplmibnfaa
open Go Go.AM
set_option linter.unusedSimpArgs false
set_option linter.unusedVariables false

def rids (bs : List Int) : Nat → Nat → Option (List Id × Nat)
  | 0, off => some ([], off)
  | c + 1, off =>
    match rid bs off with
    | none => none
    | some (i, o) =>
      match rids bs c o with
      | none => none
      | some (l, o) => some (i :: l, o)

abbrev NodeT := Int × Int × Int × List (List AV) × Int × Int × Int × Int × Int × Int × Bool × Int

def nodeOut (r : Option Node) : NodeT :=
  match r with
  | some n => (n.id.core, n.id.op, n.id.part, idCells n.path, n.cap.kind, n.cap.base, n.cap.bits, n.cap.rights, n.cap.width, n.cap.level, n.cap.device, 0)
  | none => (0, 0, 0, [], 0, 0, 0, 0, 0, 0, false, 14)

def finN (bs : List Int) (i : Id) (p : List Id) (o : Nat) : Option Node :=
  if decOk (bs.drop o) = true ∧ nodeOk ⟨i, p, decCap (bs.drop o)⟩ = true then some ⟨i, p, decCap (bs.drop o)⟩ else none

/-- node.Decode -/
def decN (bs : List Int) : Option Node :=
  match rid bs 0 with
  | none => none
  | some (i, o) =>
    match rdo 8 bs o with
    | none => none
    | some (c, o) =>
      match rids bs c o with
      | none => none
      | some (p, o) => finN bs i p o

theorem l65f (y : List (List AV)) (i : Id) (x0 : List (List AV)) (c : Nat) (hc : c ≤ 8) : ∀ (j k fuel : Nat) (acc : List (List AV)) (off : Int), c = k + j → j < fuel → acc.length ≤ k →
    g65L0 fuel x0 0 0 0 [] 0 0 0 0 0 0 false i.core i.op i.part acc 0 0 0 0 0 0 false (c : Int) (k : Int) y off true = some (nodeOut none) := by
  intro j
  induction j with
  | zero =>
    intro k fuel acc off h hf ha
    obtain ⟨f, rfl⟩ : ∃ f, fuel = f + 1 := ⟨fuel - 1, by omega⟩
    rw [g65L0_eq, if_neg (by simp only [cop_lss_t, cop_lss_f, cop_leq_t, cop_leq_f, cop_gtr_t, cop_gtr_f, cop_geq_t, cop_geq_f, cop_eql_t, cop_eql_f, cop_neq_t, cop_neq_f, Bool.not_eq_true, Bool.not_eq_false, Bool.not_eq_true', Bool.not_eq_false', Bool.and_eq_true, Bool.or_eq_true, decide_eq_true_eq, decide_eq_false_iff_not, Bool.false_eq_true, Bool.true_eq_false, Option.bind_some, Option.some.injEq, false_iff, true_iff, iff_false, iff_true]; omega), if_pos rfl]
    rfl
  | succ j ih =>
    intro k fuel acc off h hf ha
    obtain ⟨f, rfl⟩ : ∃ f, fuel = f + 1 := ⟨fuel - 1, by omega⟩
    have a4 : iop .add .i64 (k : Int) 1 = ((k + 1 : Nat) : Int) := by rw [add_i (by omega) (by omega)]; omega
    rw [g65L0_eq, if_pos (by simp only [cop_lss_t, cop_lss_f, cop_leq_t, cop_leq_f, cop_gtr_t, cop_gtr_f, cop_geq_t, cop_geq_f, cop_eql_t, cop_eql_f, cop_neq_t, cop_neq_f, Bool.not_eq_true, Bool.not_eq_false, Bool.not_eq_true', Bool.not_eq_false', Bool.and_eq_true, Bool.or_eq_true, decide_eq_true_eq, decide_eq_false_iff_not, Bool.false_eq_true, Bool.true_eq_false, Option.bind_some, Option.some.injEq, false_iff, true_iff, iff_false, iff_true]; omega), s88f, Option.bind_some, reqK_pos (room_ok (by simp; omega)), a4]
    exact ih (k + 1) f _ _ (by omega) (by omega) (by simp; omega)

theorem fin65 {bs : List Int} (hb : Bytes bs) (hl : bs.length ≤ 1000000) (i : Id) (p : List Id) (hp : p.length ≤ 8) (o : Nat) (ho : o ≤ bs.length) (f : Nat) (c : Nat) (y : List (List AV)) :
    g65L0 (f + 1) (byteCells bs) 0 0 0 [] 0 0 0 0 0 0 false i.core i.op i.part (idCells p) 0 0 0 0 0 0 false (c : Int) (c : Int) y (o : Int) false = some (nodeOut (finN bs i p o)) := by
  have hbd : Bytes (bs.drop o) := fun z hz => hb z (List.mem_of_mem_drop hz)
  have hdrop : List.drop (Int.toNat (o : Int)) (byteCells bs) = byteCells (bs.drop o) := by simp [byteCells, List.map_drop]
  rw [g65L0_eq, if_neg (by simp [cop]), if_neg (by simp), reqK_pos (by omega), reqK_pos (by rw [bytes_len]; omega), hdrop, s40 hbd (by rw [List.length_drop]; omega), Option.bind_some]
  unfold decRes finN
  cases hd : decOk (bs.drop o) with
  | false =>
    rw [if_neg Bool.false_ne_true]
    dsimp only
    rw [if_pos (by decide), if_neg (by simp)]
    rfl
  | true =>
    rw [if_pos rfl]
    dsimp only
    have q := s49 ⟨i, p, decCap (bs.drop o)⟩ (by show p.length < _; omega)
    dsimp only at q
    rw [if_neg (by simp [cop]), q, Option.bind_some]
    cases hn : nodeOk ⟨i, p, decCap (bs.drop o)⟩ with
    | false =>
      rw [if_pos (by simp), if_neg (by simp)]
      rfl
    | true =>
      rw [if_neg (by simp), if_pos ⟨rfl, rfl⟩]
      rfl

theorem l65 {bs : List Int} (hb : Bytes bs) (hl : bs.length ≤ 1000000) (i : Id) (c : Nat) (hc : c ≤ 8) : ∀ (j k fuel : Nat) (acc : List Id) (off : Nat), c = k + j → j < fuel → acc.length = k → off ≤ bs.length →
    g65L0 fuel (byteCells bs) 0 0 0 [] 0 0 0 0 0 0 false i.core i.op i.part (idCells acc) 0 0 0 0 0 0 false (c : Int) (k : Int) (byteCells bs) (off : Int) false =
      some (nodeOut (match rids bs j off with | none => none | some (l, o) => finN bs i (acc ++ l) o)) := by
  intro j
  induction j with
  | zero =>
    intro k fuel acc off h hf ha ho
    obtain ⟨f, rfl⟩ : ∃ f, fuel = f + 1 := ⟨fuel - 1, by omega⟩
    have hck : c = k := by omega
    subst hck
    rw [fin65 hb hl i acc (by omega) off ho f c]
    simp only [rids, List.append_nil]
  | succ j ih =>
    intro k fuel acc off h hf ha ho
    obtain ⟨f, rfl⟩ : ∃ f, fuel = f + 1 := ⟨fuel - 1, by omega⟩
    have a4 : iop .add .i64 (k : Int) 1 = ((k + 1 : Nat) : Int) := by rw [add_i (by omega) (by omega)]; omega
    have h88 := s88 hb hl off ho
    rw [g65L0_eq, if_pos (by simp only [cop_lss_t, cop_lss_f, cop_leq_t, cop_leq_f, cop_gtr_t, cop_gtr_f, cop_geq_t, cop_geq_f, cop_eql_t, cop_eql_f, cop_neq_t, cop_neq_f, Bool.not_eq_true, Bool.not_eq_false, Bool.not_eq_true', Bool.not_eq_false', Bool.and_eq_true, Bool.or_eq_true, decide_eq_true_eq, decide_eq_false_iff_not, Bool.false_eq_true, Bool.true_eq_false, Option.bind_some, Option.some.injEq, false_iff, true_iff, iff_false, iff_true]; omega)]
    cases hr : rid bs off with
    | none =>
      rw [hr] at h88
      obtain ⟨a, b, d, o, hg⟩ := h88
      rw [hg, Option.bind_some, reqK_pos (room_ok (by rw [ids_len]; simp; omega)), a4]
      have := l65f (byteCells bs) i (byteCells bs) c hc j (k + 1) f (idCells acc ++ (([] : List (List AV)) ++ [[AV.val (.int .i64 a), AV.val (.int .i64 b), AV.val (.int .i64 d)]])) o (by omega) (by omega) (by rw [List.length_append, ids_len]; simp; omega)
      simp only [rids, hr]
      exact this
    | some p =>
      obtain ⟨x, o⟩ := p
      rw [hr] at h88
      dsimp only at h88
      obtain ⟨r1, r2, r3⟩ := rid_le hb ho hr
      have hsn := ids_snoc acc x
      rw [h88, Option.bind_some, reqK_pos (room_ok (by rw [ids_len]; simp; omega)), a4]
      dsimp only
      rw [hsn, ih (k + 1) f _ o (by omega) (by omega) (by simp; omega) r2]
      simp only [rids, hr]
      cases rids bs j o with
      | none => rfl
      | some q => simp [List.append_assoc]

theorem s65 {bs : List Int} (hb : Bytes bs) (hl : bs.length ≤ 1000000) : g65 (byteCells bs) = some (nodeOut (decN bs)) := by
  have h88 := s88 hb hl 0 (Nat.zero_le _)
  rw [g65_eq]
  unfold decN
  have e0 : ((0 : Nat) : Int) = 0 := rfl
  rw [e0] at h88
  cases hr : rid bs 0 with
  | none =>
    rw [hr] at h88
    obtain ⟨a, b, d, o, hg⟩ := h88
    rw [hg, Option.bind_some]
    dsimp only
    rw [s89f, Option.bind_some]
    dsimp only
    exact l65f (byteCells bs) ⟨a, b, d⟩ (byteCells bs) 0 (by omega) 0 0 FUEL [] o rfl (fuel_lt (by decide)) (Nat.le_refl _)
  | some p =>
    obtain ⟨i, o⟩ := p
    rw [hr] at h88
    dsimp only at h88 ⊢
    obtain ⟨r1, r2, r3⟩ := rid_le hb (Nat.zero_le _) hr
    have q := s89 hb hl o r2 8 (by decide)
    have e8 : ((8 : Nat) : Int) = 8 := rfl
    rw [e8] at q
    rw [h88, Option.bind_some]
    dsimp only
    rw [q, Option.bind_some]
    cases hc : rdo 8 bs o with
    | none => exact l65f (byteCells bs) i (byteCells bs) 0 (by omega) 0 0 FUEL [] o rfl (fuel_lt (by decide)) (Nat.le_refl _)
    | some p =>
      obtain ⟨c, o2⟩ := p
      obtain ⟨c1, c2, c3, c4⟩ := rdo_le hb r2 hc
      dsimp only
      have := l65 hb hl i c c1 c 0 FUEL [] o2 (by omega) (fuel_lt (by omega)) rfl c3
      exact this

end Go.Proofs.Ytjfhdhplmibnfaa
