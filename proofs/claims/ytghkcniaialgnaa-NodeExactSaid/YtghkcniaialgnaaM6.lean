/- End12p, P11a, P11b, P11c, P12a, P12d, P12e, P12f, L12p: texts of the proof, put together. -/
import Derived.Test.YtghkcniaialgnaaRows
import Derived.Test.YtghkcniaialgnaaChecked
import Derived.Test.YtghkcniaialgnaaM4
import Derived.JoinedOf
import Derived.JoinedAt
import Derived.RowKit3
import Derived.KernelRfl
import Derived.Test.YtghkcniaialgnaaF12p

section
namespace Go.Proofs.Ytghkcniaialgnaa
open Go Go.AM
set_option maxRecDepth 100000

theorem behind : ∃ ws, behindMainWord (wordsSigns Try.prog.initOrder.toList) = "cut".toList :: ws := by
  have h : Try.prog.initOrder.toList = _ := String.toList_ofList (l := _)
  rw [h]
  exact behind_words (by kernel_rfl) (by kernel_rfl) (by kernel_rfl) (by kernel_rfl) (by kernel_rfl) (by kernel_rfl)

theorem enters : Try.prog.mayEnter = true := behind.elim fun _ h => Go.AM.enters_of h (by kernel_rfl) (by kernel_rfl) (by kernel_rfl)
theorem lifts : Try.prog.liftsFinal = false := behind.elim fun _ h => Go.AM.final_of h
theorem makeIs : Try.prog.make = some .cut := behind.elim fun _ h => Go.AM.make_of h
theorem laid : laidOutB Try.prog = true := by kernel_rfl
theorem ownKnobOk : ownKnob Try.prog.godebug = none := by kernel_rfl

theorem ty_int {d : Nat} {cs : List AV} (h : TyR Try.prog (d + 1) 3 cs) : ∃ z, cs = [I z] := by
  simp only [TyR, Try.underlying3] at h
  obtain ⟨z, h, _⟩ := h
  exact ⟨z, h⟩

theorem ty_bool {d : Nat} {cs : List AV} (h : TyR Try.prog (d + 1) 4 cs) : ∃ z, cs = [B z] := by
  simp only [TyR, Try.underlying4] at h
  exact h

theorem ty_cap {d : Nat} {cs : List AV} (h : TyR Try.prog (d + 2) 28 cs) : ∃ k b s r w l dv, cs = [I k, I b, I s, I r, I w, I l, B dv] := by
  rw [TyR] at h
  simp only [Try.underlying28] at h
  obtain ⟨ps, rfl, hl, hp⟩ := h
  obtain ⟨p0, p1, p2, p3, p4, p5, p6, rfl⟩ : ∃ p0 p1 p2 p3 p4 p5 p6, ps = [p0, p1, p2, p3, p4, p5, p6] := by
    match ps, hl with
    | [p0, p1, p2, p3, p4, p5, p6], _ => exact ⟨p0, p1, p2, p3, p4, p5, p6, rfl⟩
  obtain ⟨k, rfl⟩ := ty_int (hp 0 _ _ rfl rfl)
  obtain ⟨b, rfl⟩ := ty_int (hp 1 _ _ rfl rfl)
  obtain ⟨s, rfl⟩ := ty_int (hp 2 _ _ rfl rfl)
  obtain ⟨r, rfl⟩ := ty_int (hp 3 _ _ rfl rfl)
  obtain ⟨w, rfl⟩ := ty_int (hp 4 _ _ rfl rfl)
  obtain ⟨l, rfl⟩ := ty_int (hp 5 _ _ rfl rfl)
  obtain ⟨dv, rfl⟩ := ty_bool (hp 6 _ _ rfl rfl)
  exact ⟨k, b, s, r, w, l, dv, rfl⟩

theorem arg_int {x : AV} (h : ArgTy Try.prog 12 3 x) : ∃ z, x = I z := by
  simp only [ArgTy, Try.underlying3] at h
  obtain ⟨z, hz⟩ := ty_int h.2
  exact ⟨z, by simpa using hz⟩

theorem arg_cap {x : AV} (h : ArgTy Try.prog 12 28 x) : ∃ k b s r w l d, x = .agg [I k, I b, I s, I r, I w, I l, B d] := by
  simp only [ArgTy, Try.underlying28] at h
  obtain ⟨cs, rfl, h⟩ := h
  obtain ⟨k, b, s, r, w, l, d, rfl⟩ := ty_cap h
  exact ⟨k, b, s, r, w, l, d, rfl⟩

/-! lists as arguments -/
def u8c (z : Int) : List AV := [AV.val (.int .u8 z)]
def byteCells (l : List Int) : List (List AV) := l.map u8c
def Bytes (l : List Int) : Prop := ∀ z ∈ l, 0 ≤ z ∧ z ≤ 255
def i64c (z : Int) : List AV := [I z]
def intCells (l : List Int) : List (List AV) := l.map i64c

structure Id where
  core : Int
  op : Int
  part : Int
  deriving DecidableEq

def idc (i : Id) : List AV := [I i.core, I i.op, I i.part]
def idCells (l : List Id) : List (List AV) := l.map idc

theorem list_lift {α β : Type} {f : α → β} {p : α → Prop} : ∀ (xs : List β), (∀ x ∈ xs, ∃ a, x = f a ∧ p a) → ∃ l : List α, xs = l.map f ∧ ∀ a ∈ l, p a
  | [], _ => ⟨[], rfl, by simp⟩
  | x :: xs, h => by
    obtain ⟨a, h1, h2⟩ := h x (by simp)
    obtain ⟨l, h3, h4⟩ := list_lift xs fun y hy => h y (by simp [hy])
    refine ⟨a :: l, by rw [h1, h3]; rfl, fun b hb => ?_⟩
    rcases List.mem_cons.1 hb with rfl | hb
    · exact h2
    · exact h4 b hb

theorem cells3 : Try.prog.cellsOf 3 = 1 := by kernel_rfl
theorem cells25 : Try.prog.cellsOf 25 = 3 := by kernel_rfl

theorem lit8 {z : Int} (h : (Lit.int .u8 z).wf = true) : 0 ≤ z ∧ z ≤ 255 := by
  have h1 : IntKind.u8.min = 0 := by decide
  have h2 : IntKind.u8.max = 255 := by decide
  simp [Lit.wf, h1, h2] at h
  omega

theorem arg_ints {x : AV} (h : ArgTy Try.prog 12 22 x) : ∃ l, x = .slice false 1 (intCells l) ∧ l.length ≤ maxLen := by
  simp only [ArgTy, Try.underlying22] at h
  have hh := h.2
  rw [TyR] at hh
  simp only [Try.underlying22, cells3] at hh
  obtain ⟨xs, h1, h2, h3⟩ := hh
  obtain ⟨l, rfl, h5⟩ := list_lift (f := i64c) (p := fun _ => True) xs fun y hy => by
    have := h3 y hy
    rw [TyR] at this
    simp only [Try.underlying3] at this
    obtain ⟨z, rfl, hz⟩ := this
    exact ⟨z, rfl, trivial⟩
  exact ⟨l, by simpa [intCells] using h1, by simpa using h2⟩

theorem ty_id {d : Nat} {cs : List AV} (h : TyR Try.prog (d + 2) 25 cs) : ∃ i : Id, cs = idc i := by
  rw [TyR] at h
  simp only [Try.underlying25] at h
  obtain ⟨ps, rfl, hl, hp⟩ := h
  obtain ⟨p0, p1, p2, rfl⟩ : ∃ p0 p1 p2, ps = [p0, p1, p2] := by
    match ps, hl with
    | [p0, p1, p2], _ => exact ⟨p0, p1, p2, rfl⟩
  obtain ⟨k, rfl⟩ := ty_int (hp 0 _ _ rfl rfl)
  obtain ⟨b, rfl⟩ := ty_int (hp 1 _ _ rfl rfl)
  obtain ⟨s, rfl⟩ := ty_int (hp 2 _ _ rfl rfl)
  exact ⟨⟨k, b, s⟩, rfl⟩

theorem ty_ids {d : Nat} {cs : List AV} (h : TyR Try.prog (d + 3) 26 cs) : ∃ l, cs = [.slice false 3 (idCells l)] ∧ l.length ≤ maxLen := by
  rw [TyR] at h
  simp only [Try.underlying26, cells25] at h
  obtain ⟨xs, h1, h2, h3⟩ := h
  obtain ⟨l, rfl, h5⟩ := list_lift (f := idc) (p := fun _ => True) xs fun y hy => by
    obtain ⟨i, hi⟩ := ty_id (h3 y hy)
    exact ⟨i, hi, trivial⟩
  exact ⟨l, h1, by simpa using h2⟩

theorem arg_id {x : AV} (h : ArgTy Try.prog 12 25 x) : ∃ a b c, x = .agg [I a, I b, I c] := by
  simp only [ArgTy, Try.underlying25] at h
  obtain ⟨cs, rfl, h⟩ := h
  obtain ⟨i, rfl⟩ := ty_id h
  exact ⟨i.core, i.op, i.part, rfl⟩

theorem arg_ids {x : AV} (h : ArgTy Try.prog 12 26 x) : ∃ l, x = .slice false 3 (idCells l) ∧ l.length ≤ maxLen := by
  simp only [ArgTy, Try.underlying26] at h
  obtain ⟨l, h1, h2⟩ := ty_ids h.2
  exact ⟨l, by simpa using h1, h2⟩

theorem arg_node {x : AV} (h : ArgTy Try.prog 12 30 x) : ∃ a b c p k bs s r w l d, x = .agg [I a, I b, I c, .slice false 3 (idCells p), I k, I bs, I s, I r, I w, I l, B d] ∧ p.length ≤ maxLen := by
  simp only [ArgTy, Try.underlying30] at h
  obtain ⟨cs, rfl, h⟩ := h
  rw [TyR] at h
  simp only [Try.underlying30] at h
  obtain ⟨ps, rfl, hl, hp⟩ := h
  obtain ⟨p0, p1, p2, rfl⟩ : ∃ p0 p1 p2, ps = [p0, p1, p2] := by
    match ps, hl with
    | [p0, p1, p2], _ => exact ⟨p0, p1, p2, rfl⟩
  obtain ⟨i, rfl⟩ := ty_id (hp 0 _ _ rfl rfl)
  obtain ⟨l, rfl, hl2⟩ := ty_ids (hp 1 _ _ rfl rfl)
  obtain ⟨k, b, s, r, w, lv, dv, rfl⟩ := ty_cap (hp 2 _ _ rfl rfl)
  exact ⟨i.core, i.op, i.part, l, k, b, s, r, w, lv, dv, rfl, hl2⟩

def parTs : List TypeId := [3, 22, 25, 26, 30]

theorem parOk (t : TypeId) (h : parTs.contains t = true) : fineB Try.prog 12 t = true ∧ t < Try.prog.types.size ∧ Try.prog.readableRec t = true := by
  have h2 : parTs.all (fun t => fineB Try.prog 12 t && decide (t < Try.prog.types.size) && Try.prog.readableRec t) = true := by kernel_rfl
  rw [List.all_eq_true] at h2
  have := h2 t (by simpa using h)
  simpa [and_assoc] using this

end Go.Proofs.Ytghkcniaialgnaa
end

section
namespace Go.Proofs.Ytghkcniaialgnaa
open Go Go.AM
set_option linter.unusedSimpArgs false
set_option linter.unusedVariables false
set_option maxRecDepth 100000

/-- captype.sizeAllowed -/
def sizeOk (k b : Int) : Bool := decide ((k = 1 ∧ 6 ≤ b ∧ b ≤ 40) ∨ (k = 2 ∧ 12 ≤ b ∧ b ≤ 40) ∨ (k = 3 ∧ b = 12) ∨ (k = 4 ∧ b = 6) ∨ (k = 5 ∧ b = 10) ∨ (k = 6 ∧ b = 16))

theorem s40 (k b : Int) : g40 k b = some (sizeOk k b) := by
  rw [g40_eq]
  repeat' split
  all_goals (refine congrArg some ?_; rw [bool_iff]; simp only [sizeOk, cop_lss_t, cop_lss_f, cop_leq_t, cop_leq_f, cop_gtr_t, cop_gtr_f, cop_geq_t, cop_geq_f, cop_eql_t, cop_eql_f, cop_neq_t, cop_neq_f, Bool.not_eq_true, Bool.not_eq_false, Bool.not_eq_true', Bool.not_eq_false', Bool.and_eq_true, Bool.or_eq_true, decide_eq_true_eq, decide_eq_false_iff_not, Bool.false_eq_true, Bool.true_eq_false, Option.bind_some, Option.some.injEq, false_iff, true_iff, iff_false, iff_true] at *; omega)

/-- multikernelref10.fixed -/
def fixedOf (k : Int) : Int := if k = 3 then 12 else if k = 4 then 6 else if k = 5 then 10 else if k = 6 then 16 else 0

theorem s50 (k : Int) : g50 k = some (fixedOf k) := by
  rw [g50_eq]
  simp only [cop_lss_t, cop_lss_f, cop_leq_t, cop_leq_f, cop_gtr_t, cop_gtr_f, cop_geq_t, cop_geq_f, cop_eql_t, cop_eql_f, cop_neq_t, cop_neq_f, Bool.not_eq_true, Bool.not_eq_false, Bool.not_eq_true', Bool.not_eq_false', Bool.and_eq_true, Bool.or_eq_true, decide_eq_true_eq, decide_eq_false_iff_not, Bool.false_eq_true, Bool.true_eq_false, Option.bind_some, Option.some.injEq, false_iff, true_iff, iff_false, iff_true, fixedOf]
  repeat' split
  all_goals first | rfl | omega

theorem s44 (k b : Int) : g44 k b = some (sizeOk k b) := by
  rw [g44_eq]
  simp only [s50, Option.bind_some]
  repeat' split
  all_goals (refine congrArg some ?_; rw [bool_iff]; simp only [sizeOk, cop_lss_t, cop_lss_f, cop_leq_t, cop_leq_f, cop_gtr_t, cop_gtr_f, cop_geq_t, cop_geq_f, cop_eql_t, cop_eql_f, cop_neq_t, cop_neq_f, Bool.not_eq_true, Bool.not_eq_false, Bool.not_eq_true', Bool.not_eq_false', Bool.and_eq_true, Bool.or_eq_true, decide_eq_true_eq, decide_eq_false_iff_not, Bool.false_eq_true, Bool.true_eq_false, Option.bind_some, Option.some.injEq, false_iff, true_iff, iff_false, iff_true] at *; first | omega | (rcases (by omega : k = 3 ∨ k = 4 ∨ k = 5 ∨ k = 6) with rfl | rfl | rfl | rfl <;> simp [fixedOf]))

/-- captype.formatAllowed -/
def formOk (w l : Int) : Bool := decide ((w = 32 ∧ 0 ≤ l ∧ l ≤ 1) ∨ (w = 39 ∧ 0 ≤ l ∧ l ≤ 2))

theorem s43 (w l : Int) : g43 w l = some (formOk w l) := by
  rw [g43_eq]
  repeat' split
  all_goals (refine congrArg some ?_; rw [bool_iff]; simp only [formOk, cop_lss_t, cop_lss_f, cop_leq_t, cop_leq_f, cop_gtr_t, cop_gtr_f, cop_geq_t, cop_geq_f, cop_eql_t, cop_eql_f, cop_neq_t, cop_neq_f, Bool.not_eq_true, Bool.not_eq_false, Bool.not_eq_true', Bool.not_eq_false', Bool.and_eq_true, Bool.or_eq_true, decide_eq_true_eq, decide_eq_false_iff_not, Bool.false_eq_true, Bool.true_eq_false, Option.bind_some, Option.some.injEq, false_iff, true_iff, iff_false, iff_true] at *; omega)

theorem s47 (w l : Int) : g47 w l = some (formOk w l) := by
  rw [g47_eq]
  repeat' split
  all_goals (refine congrArg some ?_; rw [bool_iff]; simp only [formOk, cop_lss_t, cop_lss_f, cop_leq_t, cop_leq_f, cop_gtr_t, cop_gtr_f, cop_geq_t, cop_geq_f, cop_eql_t, cop_eql_f, cop_neq_t, cop_neq_f, Bool.not_eq_true, Bool.not_eq_false, Bool.not_eq_true', Bool.not_eq_false', Bool.and_eq_true, Bool.or_eq_true, decide_eq_true_eq, decide_eq_false_iff_not, Bool.false_eq_true, Bool.true_eq_false, Option.bind_some, Option.some.injEq, false_iff, true_iff, iff_false, iff_true] at *; omega)

/-- memrange.Valid -/
def rngOk (a b : Int) : Bool := decide (6 ≤ b ∧ b ≤ 40 ∧ 0 ≤ a ∧ a % 2 ^ b.toNat = 0 ∧ a + 2 ^ b.toNat ≤ 1099511627776)

theorem pow_hi {b : Int} (h : b ≤ 40) : (2 : Int) ^ b.toNat ≤ 1099511627776 := by
  have := pow_le2 (m := b.toNat) (n := 40) (by omega)
  have e : (2 : Int) ^ 40 = 1099511627776 := by decide
  omega

theorem rem_pow {a : Int} {n : Nat} (h : 0 ≤ a) : iop .rem .i64 a (2 ^ n) = a % 2 ^ n := Int.tmod_eq_emod_of_nonneg h

theorem sub_hi {b : Int} (h : b ≤ 40) : iop .sub .i64 1099511627776 (2 ^ b.toNat) = 1099511627776 - 2 ^ b.toNat := by
  have := pow_hi h
  have := pow_pos2 b.toNat
  exact wrap_of (by omega) (by omega)

theorem s41 (a b : Int) : g41 a b = some (rngOk a b) := by
  have hp := pow_pos2 b.toNat
  rw [g41_eq]
  by_cases h1 : 6 ≤ b ∧ b ≤ 40 ∧ 0 ≤ a
  · obtain ⟨h1, h2, h3⟩ := h1
    have hs : iop .shl .i64 1 b = 2 ^ b.toNat := shl1 (by omega)
    have hr : reqK ((0 : Int) ≤ b) = fun (x : Option Bool) => x := funext fun x => reqK_pos (by omega) x
    have hn : reqK (((2 : Int) ^ b.toNat) ≠ 0) = fun (x : Option Bool) => x := funext fun x => reqK_pos (by omega) x
    simp only [hs, hr, hn, rem_pow h3, sub_hi h2]
    repeat' split
    all_goals (refine congrArg some ?_; rw [bool_iff]; simp only [rngOk, cop_lss_t, cop_lss_f, cop_leq_t, cop_leq_f, cop_gtr_t, cop_gtr_f, cop_geq_t, cop_geq_f, cop_eql_t, cop_eql_f, cop_neq_t, cop_neq_f, Bool.not_eq_true, Bool.not_eq_false, Bool.not_eq_true', Bool.not_eq_false', Bool.and_eq_true, Bool.or_eq_true, decide_eq_true_eq, decide_eq_false_iff_not, Bool.false_eq_true, Bool.true_eq_false, Option.bind_some, Option.some.injEq, false_iff, true_iff, iff_false, iff_true] at *; omega)
  · have hf : rngOk a b = false := by simp only [rngOk, decide_eq_false_iff_not]; omega
    rw [hf]
    repeat' split
    all_goals first | rfl | (exfalso; simp only [cop_lss_t, cop_lss_f, cop_leq_t, cop_leq_f, cop_gtr_t, cop_gtr_f, cop_geq_t, cop_geq_f, cop_eql_t, cop_eql_f, cop_neq_t, cop_neq_f, Bool.not_eq_true, Bool.not_eq_false, Bool.not_eq_true', Bool.not_eq_false', Bool.and_eq_true, Bool.or_eq_true, decide_eq_true_eq, decide_eq_false_iff_not, Bool.false_eq_true, Bool.true_eq_false, Option.bind_some, Option.some.injEq, false_iff, true_iff, iff_false, iff_true] at *; omega)

theorem s45 (a b : Int) : g45 a b = some (rngOk a b) := by
  have hp := pow_pos2 b.toNat
  rw [g45_eq]
  by_cases h1 : 6 ≤ b ∧ b ≤ 40 ∧ 0 ≤ a
  · obtain ⟨h1, h2, h3⟩ := h1
    have hw : IntKind.wrap .u64 b = b := wrapu_of (by omega) (by omega)
    have hs : iop .shl .i64 1 b = 2 ^ b.toNat := shl1 (by omega)
    have hr : reqK ((0 : Int) ≤ b) = fun (x : Option Bool) => x := funext fun x => reqK_pos (by omega) x
    have hn : reqK (((2 : Int) ^ b.toNat) ≠ 0) = fun (x : Option Bool) => x := funext fun x => reqK_pos (by omega) x
    have h40 := pow_hi h2
    simp only [hw, hs, hr, hn, rem_pow h3]
    repeat' split
    all_goals (refine congrArg some ?_; rw [bool_iff]; simp only [rngOk, cop_lss_t, cop_lss_f, cop_leq_t, cop_leq_f, cop_gtr_t, cop_gtr_f, cop_geq_t, cop_geq_f, cop_eql_t, cop_eql_f, cop_neq_t, cop_neq_f, Bool.not_eq_true, Bool.not_eq_false, Bool.not_eq_true', Bool.not_eq_false', Bool.and_eq_true, Bool.or_eq_true, decide_eq_true_eq, decide_eq_false_iff_not, Bool.false_eq_true, Bool.true_eq_false, Option.bind_some, Option.some.injEq, false_iff, true_iff, iff_false, iff_true] at *; first | omega | (rw [add_i (by omega) (by omega)] at *; omega))
  · have hf : rngOk a b = false := by simp only [rngOk, decide_eq_false_iff_not]; omega
    rw [hf]
    repeat' split
    all_goals first | rfl | (exfalso; simp only [cop_lss_t, cop_lss_f, cop_leq_t, cop_leq_f, cop_gtr_t, cop_gtr_f, cop_geq_t, cop_geq_f, cop_eql_t, cop_eql_f, cop_neq_t, cop_neq_f, Bool.not_eq_true, Bool.not_eq_false, Bool.not_eq_true', Bool.not_eq_false', Bool.and_eq_true, Bool.or_eq_true, decide_eq_true_eq, decide_eq_false_iff_not, Bool.false_eq_true, Bool.true_eq_false, Option.bind_some, Option.some.injEq, false_iff, true_iff, iff_false, iff_true] at *; omega)

/-- memrange.End -/
def rngEnd (a b : Int) : Int := if rngOk a b = true then a + 2 ^ b.toNat else 0

theorem rngOk_of {a b : Int} (h : rngOk a b = true) : 6 ≤ b ∧ b ≤ 40 ∧ 0 ≤ a ∧ a % 2 ^ b.toNat = 0 ∧ a + 2 ^ b.toNat ≤ 1099511627776 := by simpa [rngOk] using h

theorem end_val {a b : Int} (h : rngOk a b = true) : iop .add .i64 a (iop .shl .i64 1 b) = rngEnd a b := by
  obtain ⟨h1, h2, h3, h4, h5⟩ := rngOk_of h
  have := pow_pos2 b.toNat
  rw [shl1 (by omega), add_i (by omega) (by omega), rngEnd, if_pos h]

/-- memrange.Overlaps -/
def overB (a b c d : Int) : Bool := rngOk a b && rngOk c d && decide (a < rngEnd c d) && decide (c < rngEnd a b)

/-- memrange.Contains -/
def inB (a b c d : Int) : Bool := rngOk a b && rngOk c d && decide (a ≤ c) && decide (rngEnd c d ≤ rngEnd a b)

structure Cap where
  kind : Int
  base : Int
  bits : Int
  rights : Int
  width : Int
  level : Int
  device : Bool

theorem s42 (k b s r w l : Int) (d : Bool) : g42 k b s r w l d = some (b, s) := g42_eq ..

theorem s46 (k b s r w l : Int) (d : Bool) : g46 k b s r w l d = some (b, s) := g46_eq ..

/-- captype.Valid -/
def capOk (c : Cap) : Bool := sizeOk c.kind c.bits && rngOk c.base c.bits && decide (0 ≤ c.rights ∧ c.rights ≤ 7) && (if c.kind = 3 then formOk c.width c.level else decide (c.width = 0 ∧ c.level = 0)) && (!c.device || decide (c.kind = 1) || decide (c.kind = 2))

theorem s28 (k b s r w l : Int) (d : Bool) : g28 k b s r w l d = some (capOk ⟨k, b, s, r, w, l, d⟩) := by
  rw [g28_eq]
  simp only [s40, s42, s41, s43, Option.bind_some]
  repeat' split
  all_goals (refine congrArg some ?_; rw [bool_iff]; simp only [capOk, cop_lss_t, cop_lss_f, cop_leq_t, cop_leq_f, cop_gtr_t, cop_gtr_f, cop_geq_t, cop_geq_f, cop_eql_t, cop_eql_f, cop_neq_t, cop_neq_f, Bool.not_eq_true, Bool.not_eq_false, Bool.not_eq_true', Bool.not_eq_false', Bool.and_eq_true, Bool.or_eq_true, decide_eq_true_eq, decide_eq_false_iff_not, Bool.false_eq_true, Bool.true_eq_false, Option.bind_some, Option.some.injEq, false_iff, true_iff, iff_false, iff_true] at *; grind)

theorem s29 (k b s r w l : Int) (d : Bool) : g29 k b s r w l d = some (capOk ⟨k, b, s, r, w, l, d⟩) := by
  rw [g29_eq]
  simp only [s44, s46, s45, s47, Option.bind_some]
  repeat' split
  all_goals (refine congrArg some ?_; rw [bool_iff]; simp only [capOk, cop_lss_t, cop_lss_f, cop_leq_t, cop_leq_f, cop_gtr_t, cop_gtr_f, cop_geq_t, cop_geq_f, cop_eql_t, cop_eql_f, cop_neq_t, cop_neq_f, Bool.not_eq_true, Bool.not_eq_false, Bool.not_eq_true', Bool.not_eq_false', Bool.and_eq_true, Bool.or_eq_true, decide_eq_true_eq, decide_eq_false_iff_not, Bool.false_eq_true, Bool.true_eq_false, Option.bind_some, Option.some.injEq, false_iff, true_iff, iff_false, iff_true] at *; grind)

/-- captype.SameObject -/
def sameB (a b : Cap) : Bool := decide (a.kind = b.kind) && decide (a.base = b.base) && decide (a.bits = b.bits) && decide (a.width = b.width) && decide (a.level = b.level) && decide (a.device = b.device)

/-- captype.Coexist -/
def coB (a b : Cap) : Bool := !overB a.base a.bits b.base b.bits || sameB a b || (decide (a.kind = 1) && inB a.base a.bits b.base b.bits) || (decide (b.kind = 1) && inB b.base b.bits a.base a.bits)

end Go.Proofs.Ytghkcniaialgnaa
end

section
namespace Go.Proofs.Ytghkcniaialgnaa
open Go Go.AM
set_option linter.unusedSimpArgs false
set_option linter.unusedVariables false
set_option maxRecDepth 100000

/-- The cells of the capabilities that Retype makes. -/
def newCell (obj a sz bits r w l : Int) (d : Bool) (j : Nat) : List AV := [I obj, I (a + j * sz), I bits, I r, I w, I l, B d]

def newCells (obj a sz bits r w l : Int) (d : Bool) (n : Nat) : List (List AV) := (List.range n).map (newCell obj a sz bits r w l d)

theorem newCells_succ (obj a sz bits r w l : Int) (d : Bool) (n : Nat) : newCells obj a sz bits r w l d (n + 1) = newCells obj a sz bits r w l d n ++ [newCell obj a sz bits r w l d n] := by
  simp [newCells, List.range_succ]

theorem newCells_len (obj a sz bits r w l : Int) (d : Bool) (n : Nat) : (newCells obj a sz bits r w l d n).length = n := by simp [newCells]

theorem newCells_at (obj a sz bits r w l : Int) (d : Bool) (n i : Nat) (h : i < n) : (newCells obj a sz bits r w l d n)[i]? = some (newCell obj a sz bits r w l d i) := by
  simp [newCells, h]

theorem fuel_lt {n : Nat} (h : n < 2 ^ 64) : n < FUEL := by
  have : FUEL = 1208925819614629174706176 := rfl
  omega

theorem room_ok {a b : List (List AV)} {k : Nat} (h : (a.length + b.length) * (k + 1) ≤ 1099511627776) : roomP a b k := h

theorem size_rng {k b : Int} (h : sizeOk k b = true) : 6 ≤ b ∧ b ≤ 40 := by
  simp only [sizeOk, decide_eq_true_eq] at h
  omega

theorem cap_rng {c : Cap} (h : capOk c = true) : rngOk c.base c.bits = true := by
  simp only [capOk, Bool.and_eq_true] at h
  exact h.1.1.1.2

/-- captype.Retype: the error -/
def retErr (c : Cap) (obj bits level width off cnt : Int) : Int :=
  if capOk c = false ∨ c.kind ≠ 1 then 5
  else if iop .and .i64 c.rights 2 = 0 then 8
  else if sizeOk obj bits = false ∨ (obj = 3 ∧ formOk width level = false) ∨ cnt < 1 ∨ 8 < cnt ∨ off < 0 then 1
  else if c.device = true ∧ obj ≠ 1 ∧ obj ≠ 2 then 5
  else if off % 2 ^ bits.toNat ≠ 0 ∨ 2 ^ c.bits.toNat - cnt * 2 ^ bits.toNat < off ∨ (obj = 1 ∧ c.bits ≤ bits) then 6
  else 0

/-- captype.Retype: the capabilities -/
def retCells (c : Cap) (obj bits level width off cnt : Int) : List (List AV) :=
  if retErr c obj bits level width off cnt = 0 then newCells obj (c.base + off) (2 ^ bits.toNat) bits c.rights (if obj = 3 then width else 0) (if obj = 3 then level else 0) c.device cnt.toNat else []

theorem ret_bad {c : Cap} {obj bits level width off cnt e : Int} (he : e ≠ 0) (h : retErr c obj bits level width off cnt = e) :
    some (([] : List (List AV)), e) = some (retCells c obj bits level width off cnt, retErr c obj bits level width off cnt) := by
  simp only [retCells, h, if_neg he]

/-- What the numbers come to where all is well. -/
theorem ret_nums {c : Cap} {obj bits off cnt : Int} (hc : capOk c = true) (hs : sizeOk obj bits = true) (h1 : 1 ≤ cnt) (h2 : cnt ≤ 8) (h3 : 0 ≤ off) :
    iop .shl .i64 1 bits = 2 ^ bits.toNat ∧ iop .rem .i64 off (2 ^ bits.toNat) = off % 2 ^ bits.toNat ∧ iop .shl .i64 1 c.bits = 2 ^ c.bits.toNat ∧ iop .mul .i64 cnt (2 ^ bits.toNat) = cnt * 2 ^ bits.toNat ∧
      iop .sub .i64 (2 ^ c.bits.toNat) (cnt * 2 ^ bits.toNat) = 2 ^ c.bits.toNat - cnt * 2 ^ bits.toNat ∧ (2 : Int) ^ bits.toNat ≠ 0 ∧ 0 ≤ bits ∧ 0 ≤ c.bits ∧ 0 ≤ c.base ∧ c.base + 2 ^ c.bits.toNat ≤ 1099511627776 ∧
      0 < (2 : Int) ^ bits.toNat ∧ (2 : Int) ^ bits.toNat ≤ 1099511627776 ∧ (2 : Int) ^ bits.toNat ≤ cnt * 2 ^ bits.toNat ∧ 0 < (2 : Int) ^ c.bits.toNat ∧ bits ≤ 40 ∧ c.bits ≤ 40 := by
  obtain ⟨b1, b2⟩ := size_rng hs
  obtain ⟨r1, r2, r3, r4, r5⟩ := rngOk_of (cap_rng hc)
  have p1 := pow_pos2 bits.toNat
  have p2 := pow_pos2 c.bits.toNat
  have q1 := pow_hi b2
  have q2 := pow_hi r2
  have m1 : cnt * 2 ^ bits.toNat ≤ 8 * 2 ^ bits.toNat := Int.mul_le_mul_of_nonneg_right (by omega) (by omega)
  have m2 : 1 * 2 ^ bits.toNat ≤ cnt * 2 ^ bits.toNat := Int.mul_le_mul_of_nonneg_right (by omega) (by omega)
  refine ⟨shl1 (by omega), rem_pow (by omega), shl1 (by omega), mul_i (by omega) (by omega), sub_i (by omega) (by omega), by omega, by omega, by omega, r3, r5, p1, q1, by omega, p2, b2, r2⟩

theorem reqK_id {γ : Type} {p : Prop} {_ : Decidable p} (h : p) : (reqK p : Option γ → Option γ) = fun x => x := funext fun x => reqK_pos h x

end Go.Proofs.Ytghkcniaialgnaa
end

section
namespace Go.Proofs.Ytghkcniaialgnaa
open Go Go.AM
set_option linter.unusedSimpArgs false
set_option linter.unusedVariables false
set_option maxRecDepth 100000

abbrev capSh : List Sh := [.int .i64, .int .i64, .int .i64, .int .i64, .int .i64, .int .i64, .bool]

/-- The element i of what Retype made. -/
theorem elem_new {γ : Type} {obj a sz bits r w l : Int} {d : Bool} {n : Nat} {i : Int} (k : (Int × Int × Int × Int × Int × Int × Bool) → Option γ) (h0 : 0 ≤ i) (h1 : i.toNat < n) :
    elemK (newCells obj a sz bits r w l d n) i capSh k = k (obj, a + i * sz, bits, r, w, l, d) := by
  have hi : ((i.toNat : Nat) : Int) = i := by omega
  refine elemK_at (sh := capSh) k h0 (newCells_at obj a sz bits r w l d n i.toNat h1) (r := (obj, a + i * sz, bits, r, w, l, d)) ?_
  simp only [newCell, hi]
  rfl

theorem ofEs_new (obj a sz bits r w l : Int) (d : Bool) (j : Nat) : ofEs capSh (newCell obj a sz bits r w l d j) = some (obj, a + j * sz, bits, r, w, l, d) := rfl

theorem ofEs_newCells {obj a sz bits r w l : Int} {d : Bool} {n : Nat} {x : List AV} (h : x ∈ newCells obj a sz bits r w l d n) : ∃ r, ofEs capSh x = some r := by
  obtain ⟨j, _, rfl⟩ := List.mem_map.1 h
  exact ⟨_, ofEs_new ..⟩

theorem ret_good {c : Cap} {obj bits level width off cnt : Int} (h : retErr c obj bits level width off cnt = 0) :
    capOk c = true ∧ c.kind = 1 ∧ iop .and .i64 c.rights 2 ≠ 0 ∧ sizeOk obj bits = true ∧ (obj = 3 → formOk width level = true) ∧ 1 ≤ cnt ∧ cnt ≤ 8 ∧ 0 ≤ off ∧ (c.device = true → obj = 1 ∨ obj = 2) ∧
      off % 2 ^ bits.toNat = 0 ∧ off ≤ 2 ^ c.bits.toNat - cnt * 2 ^ bits.toNat ∧ (obj = 1 → bits < c.bits) := by
  unfold retErr at h
  split at h
  · cases h
  split at h
  · cases h
  split at h
  · cases h
  split at h
  · cases h
  split at h
  · cases h
  rename_i h1 h2 h3 h4 h5
  refine ⟨?_, ?_, h2, ?_, ?_, ?_, ?_, ?_, ?_, ?_, ?_, ?_⟩ <;> grind

theorem ret_cells {c : Cap} {obj bits level width off cnt : Int} : ∃ a r w l d n, n < 2 ^ 30 ∧ retCells c obj bits level width off cnt = newCells obj a (2 ^ bits.toNat) bits r w l d n := by
  by_cases h : retErr c obj bits level width off cnt = 0
  · obtain ⟨_, _, _, _, _, _, h7, _⟩ := ret_good h
    simp only [retCells, h, if_true]
    exact ⟨_, _, _, _, _, cnt.toNat, by omega, rfl⟩
  · simp only [retCells, if_neg h]
    exact ⟨0, 0, 0, 0, false, 0, by omega, rfl⟩

theorem shl_i {a b : Int} (h0 : 0 ≤ b) (h1 : b ≤ 62) (h2 : 0 ≤ a) (h3 : a * 2 ^ b.toNat < 2 ^ 63) : iop .shl .i64 a b = a * 2 ^ b.toNat := by
  have hmin : min b.toNat IntKind.i64.bits = b.toNat := by
    have : IntKind.i64.bits = 64 := rfl
    omega
  simp only [iop, hmin]
  have hp := pow_pos2 b.toNat
  have : 0 ≤ a * 2 ^ b.toNat := Int.mul_nonneg h2 (by omega)
  rw [wrap_of (by omega) h3]

/-- One by one, Retype makes what it makes at once. -/
theorem ret_one {c : Cap} {obj bits level width off cnt : Int} (h : retErr c obj bits level width off cnt = 0) {i : Nat} (hi : (i : Int) < cnt) : retErr c obj bits level width (off + i * 2 ^ bits.toNat) 1 = 0 := by
  obtain ⟨h1, h2, h3, h4, h5, h6, h7, h8, h9, h10, h11, h12⟩ := ret_good h
  have hp := pow_pos2 bits.toNat
  have m0 : 0 ≤ (i : Int) * 2 ^ bits.toNat := Int.mul_nonneg (by omega) (by omega)
  have m1 : ((i : Int) + 1) * 2 ^ bits.toNat ≤ cnt * 2 ^ bits.toNat := Int.mul_le_mul_of_nonneg_right (by omega) (by omega)
  have m2 : ((i : Int) + 1) * 2 ^ bits.toNat = i * 2 ^ bits.toNat + 2 ^ bits.toNat := by rw [Int.add_mul, Int.one_mul]
  have hmod : (off + i * 2 ^ bits.toNat) % 2 ^ bits.toNat = 0 := by rw [Int.add_mul_emod_self_right]; exact h10
  rw [retErr, if_neg (by simp [h1, h2]), if_neg h3, if_neg (by
    rintro (h | ⟨h, h'⟩ | h | h | h)
    · rw [h4] at h; cases h
    · rw [h5 h] at h'; cases h'
    · omega
    · omega
    · omega), if_neg (by rintro ⟨h, h', h''⟩; rcases h9 h with h | h <;> omega), if_neg (by
    rintro (h | h | ⟨h, h'⟩)
    · exact h hmod
    · omega
    · have := h12 h; omega)]

/-- multikernelmake.Place -/
theorem s37 (x n : Int) (h1 : 1 ≤ n) (h2 : n < 2 ^ 62) : g37 x n = some (x % n) := by
  have e62 : (2 : Int) ^ 62 = 4611686018427387904 := by decide
  have hm0 := Int.emod_nonneg x (show n ≠ 0 by omega)
  have hm1 := Int.emod_lt_of_pos x (show 0 < n by omega)
  have ht : iop .rem .i64 x n = x.tmod n := rfl
  rw [g37_eq, if_neg (by simp only [cop_lss_t, cop_lss_f, cop_leq_t, cop_leq_f, cop_gtr_t, cop_gtr_f, cop_geq_t, cop_geq_f, cop_eql_t, cop_eql_f, cop_neq_t, cop_neq_f, Bool.not_eq_true, Bool.not_eq_false, Bool.not_eq_true', Bool.not_eq_false', Bool.and_eq_true, Bool.or_eq_true, decide_eq_true_eq, decide_eq_false_iff_not, Bool.false_eq_true, Bool.true_eq_false, Option.bind_some, Option.some.injEq, false_iff, true_iff, iff_false, iff_true]; omega), reqK_pos (by omega), ht]
  have := Int.tmod_eq_emod (a := x) (b := n)
  by_cases hd : 0 ≤ x ∨ n ∣ x
  · rw [if_pos hd] at this
    rw [if_neg (by simp only [cop_lss_t, cop_lss_f, cop_leq_t, cop_leq_f, cop_gtr_t, cop_gtr_f, cop_geq_t, cop_geq_f, cop_eql_t, cop_eql_f, cop_neq_t, cop_neq_f, Bool.not_eq_true, Bool.not_eq_false, Bool.not_eq_true', Bool.not_eq_false', Bool.and_eq_true, Bool.or_eq_true, decide_eq_true_eq, decide_eq_false_iff_not, Bool.false_eq_true, Bool.true_eq_false, Option.bind_some, Option.some.injEq, false_iff, true_iff, iff_false, iff_true]; omega)]
    congr 1
    omega
  · rw [if_neg hd] at this
    have habs : ((n.natAbs : Nat) : Int) = n := by omega
    have hne : x % n ≠ 0 := fun h => hd (.inr (Int.dvd_of_emod_eq_zero h))
    rw [if_pos (by simp only [cop_lss_t, cop_lss_f, cop_leq_t, cop_leq_f, cop_gtr_t, cop_gtr_f, cop_geq_t, cop_geq_f, cop_eql_t, cop_eql_f, cop_neq_t, cop_neq_f, Bool.not_eq_true, Bool.not_eq_false, Bool.not_eq_true', Bool.not_eq_false', Bool.and_eq_true, Bool.or_eq_true, decide_eq_true_eq, decide_eq_false_iff_not, Bool.false_eq_true, Bool.true_eq_false, Option.bind_some, Option.some.injEq, false_iff, true_iff, iff_false, iff_true]; omega), add_i (by omega) (by omega)]
    congr 1
    omega

theorem fuel6 : ∃ f, FUEL = f + 1 + 1 + 1 + 1 + 1 + 1 := ⟨FUEL - 6, by decide⟩

end Go.Proofs.Ytghkcniaialgnaa
end

section
namespace Go.Proofs.Ytghkcniaialgnaa
open Go Go.AM
set_option linter.unusedSimpArgs false
set_option linter.unusedVariables false
set_option maxRecDepth 100000

abbrev idSh : List Sh := [.int .i64, .int .i64, .int .i64]

/-- node.ValidId -/
def idOk (i : Id) : Bool := decide (0 ≤ i.core ∧ i.core < 32 ∧ 1 ≤ i.op ∧ i.op ≤ 1073741824 ∧ 0 ≤ i.part ∧ i.part < 8)

theorem s14 (a b c : Int) : g14 a b c = some (idOk ⟨a, b, c⟩) := by
  rw [g14_eq]
  repeat' split
  all_goals (refine congrArg some ?_; rw [bool_iff]; simp only [idOk, cop_lss_t, cop_lss_f, cop_leq_t, cop_leq_f, cop_gtr_t, cop_gtr_f, cop_geq_t, cop_geq_f, cop_eql_t, cop_eql_f, cop_neq_t, cop_neq_f, Bool.not_eq_true, Bool.not_eq_false, Bool.not_eq_true', Bool.not_eq_false', Bool.and_eq_true, Bool.or_eq_true, decide_eq_true_eq, decide_eq_false_iff_not, Bool.false_eq_true, Bool.true_eq_false, Option.bind_some, Option.some.injEq, false_iff, true_iff, iff_false, iff_true] at *; omega)

theorem s51 (a : Int) : g51 a = some false := by
  rw [g51_eq]
  simp [cop]

def cmpI (a b : Int) : Int := if a < b then -1 else if b < a then 1 else 0

theorem s49 (a b : Int) : g49 a b = some (cmpI a b) := by
  rw [g49_eq]
  simp only [s51, Option.bind_some, Bool.false_eq_true, if_false]
  by_cases h1 : a < b
  · rw [if_pos (by simp only [cop_lss_t, cop_lss_f, cop_leq_t, cop_leq_f, cop_gtr_t, cop_gtr_f, cop_geq_t, cop_geq_f, cop_eql_t, cop_eql_f, cop_neq_t, cop_neq_f, Bool.not_eq_true, Bool.not_eq_false, Bool.not_eq_true', Bool.not_eq_false', Bool.and_eq_true, Bool.or_eq_true, decide_eq_true_eq, decide_eq_false_iff_not, Bool.false_eq_true, Bool.true_eq_false, Option.bind_some, Option.some.injEq, false_iff, true_iff, iff_false, iff_true]; omega), cmpI, if_pos h1]
  · by_cases h2 : b < a
    · rw [if_neg (by simp only [cop_lss_t, cop_lss_f, cop_leq_t, cop_leq_f, cop_gtr_t, cop_gtr_f, cop_geq_t, cop_geq_f, cop_eql_t, cop_eql_f, cop_neq_t, cop_neq_f, Bool.not_eq_true, Bool.not_eq_false, Bool.not_eq_true', Bool.not_eq_false', Bool.and_eq_true, Bool.or_eq_true, decide_eq_true_eq, decide_eq_false_iff_not, Bool.false_eq_true, Bool.true_eq_false, Option.bind_some, Option.some.injEq, false_iff, true_iff, iff_false, iff_true]; omega), if_pos (by simp only [cop_lss_t, cop_lss_f, cop_leq_t, cop_leq_f, cop_gtr_t, cop_gtr_f, cop_geq_t, cop_geq_f, cop_eql_t, cop_eql_f, cop_neq_t, cop_neq_f, Bool.not_eq_true, Bool.not_eq_false, Bool.not_eq_true', Bool.not_eq_false', Bool.and_eq_true, Bool.or_eq_true, decide_eq_true_eq, decide_eq_false_iff_not, Bool.false_eq_true, Bool.true_eq_false, Option.bind_some, Option.some.injEq, false_iff, true_iff, iff_false, iff_true]; omega), cmpI, if_neg h1, if_pos h2]
    · rw [if_neg (by simp only [cop_lss_t, cop_lss_f, cop_leq_t, cop_leq_f, cop_gtr_t, cop_gtr_f, cop_geq_t, cop_geq_f, cop_eql_t, cop_eql_f, cop_neq_t, cop_neq_f, Bool.not_eq_true, Bool.not_eq_false, Bool.not_eq_true', Bool.not_eq_false', Bool.and_eq_true, Bool.or_eq_true, decide_eq_true_eq, decide_eq_false_iff_not, Bool.false_eq_true, Bool.true_eq_false, Option.bind_some, Option.some.injEq, false_iff, true_iff, iff_false, iff_true]; omega), if_neg (by simp only [cop_lss_t, cop_lss_f, cop_leq_t, cop_leq_f, cop_gtr_t, cop_gtr_f, cop_geq_t, cop_geq_f, cop_eql_t, cop_eql_f, cop_neq_t, cop_neq_f, Bool.not_eq_true, Bool.not_eq_false, Bool.not_eq_true', Bool.not_eq_false', Bool.and_eq_true, Bool.or_eq_true, decide_eq_true_eq, decide_eq_false_iff_not, Bool.false_eq_true, Bool.true_eq_false, Option.bind_some, Option.some.injEq, false_iff, true_iff, iff_false, iff_true]; omega), cmpI, if_neg h1, if_neg h2]

def firstNZ (x y z : Int) : Int := if x ≠ 0 then x else if y ≠ 0 then y else z

theorem s48 (x y z : Int) : g48 (((([] : List (List AV)) ++ [[AV.val (.int .i64 x)]]) ++ [[AV.val (.int .i64 y)]]) ++ [[AV.val (.int .i64 z)]]) = some (firstNZ x y z) := by
  obtain ⟨f, hf⟩ := fuel6
  have e : (((([] : List (List AV)) ++ [[AV.val (.int .i64 x)]]) ++ [[AV.val (.int .i64 y)]]) ++ [[AV.val (.int .i64 z)]]) = [i64c x, i64c y, i64c z] := rfl
  have e1 : iop .add .i64 0 1 = 1 := by decide
  have e2 : iop .add .i64 1 1 = 2 := by decide
  have e3 : iop .add .i64 2 1 = 3 := by decide
  have hl : (([i64c x, i64c y, i64c z] : List (List AV)).length : Int) = 3 := rfl
  rw [g48_eq, e, hf, hl]
  rw [g48L0_eq, if_pos (by decide), elemK_at (sh := [.int .i64]) (cs := i64c x) (r := x) _ (by decide) rfl rfl]
  by_cases hx : x = 0
  · rw [if_neg (by simp only [cop_lss_t, cop_lss_f, cop_leq_t, cop_leq_f, cop_gtr_t, cop_gtr_f, cop_geq_t, cop_geq_f, cop_eql_t, cop_eql_f, cop_neq_t, cop_neq_f, Bool.not_eq_true, Bool.not_eq_false, Bool.not_eq_true', Bool.not_eq_false', Bool.and_eq_true, Bool.or_eq_true, decide_eq_true_eq, decide_eq_false_iff_not, Bool.false_eq_true, Bool.true_eq_false, Option.bind_some, Option.some.injEq, false_iff, true_iff, iff_false, iff_true]; omega), e1, g48L0_eq, if_pos (by decide), elemK_at (sh := [.int .i64]) (cs := i64c y) (r := y) _ (by decide) rfl rfl]
    by_cases hy : y = 0
    · rw [if_neg (by simp only [cop_lss_t, cop_lss_f, cop_leq_t, cop_leq_f, cop_gtr_t, cop_gtr_f, cop_geq_t, cop_geq_f, cop_eql_t, cop_eql_f, cop_neq_t, cop_neq_f, Bool.not_eq_true, Bool.not_eq_false, Bool.not_eq_true', Bool.not_eq_false', Bool.and_eq_true, Bool.or_eq_true, decide_eq_true_eq, decide_eq_false_iff_not, Bool.false_eq_true, Bool.true_eq_false, Option.bind_some, Option.some.injEq, false_iff, true_iff, iff_false, iff_true]; omega), e2, g48L0_eq, if_pos (by decide), elemK_at (sh := [.int .i64]) (cs := i64c z) (r := z) _ (by decide) rfl rfl]
      by_cases hz : z = 0
      · rw [if_neg (by simp only [cop_lss_t, cop_lss_f, cop_leq_t, cop_leq_f, cop_gtr_t, cop_gtr_f, cop_geq_t, cop_geq_f, cop_eql_t, cop_eql_f, cop_neq_t, cop_neq_f, Bool.not_eq_true, Bool.not_eq_false, Bool.not_eq_true', Bool.not_eq_false', Bool.and_eq_true, Bool.or_eq_true, decide_eq_true_eq, decide_eq_false_iff_not, Bool.false_eq_true, Bool.true_eq_false, Option.bind_some, Option.some.injEq, false_iff, true_iff, iff_false, iff_true]; omega), e3, g48L0_eq, if_neg (by decide)]
        simp [firstNZ, hx, hy, hz]
      · rw [if_pos (by simp only [cop_lss_t, cop_lss_f, cop_leq_t, cop_leq_f, cop_gtr_t, cop_gtr_f, cop_geq_t, cop_geq_f, cop_eql_t, cop_eql_f, cop_neq_t, cop_neq_f, Bool.not_eq_true, Bool.not_eq_false, Bool.not_eq_true', Bool.not_eq_false', Bool.and_eq_true, Bool.or_eq_true, decide_eq_true_eq, decide_eq_false_iff_not, Bool.false_eq_true, Bool.true_eq_false, Option.bind_some, Option.some.injEq, false_iff, true_iff, iff_false, iff_true]; omega)]
        simp [firstNZ, hx, hy]
    · rw [if_pos (by simp only [cop_lss_t, cop_lss_f, cop_leq_t, cop_leq_f, cop_gtr_t, cop_gtr_f, cop_geq_t, cop_geq_f, cop_eql_t, cop_eql_f, cop_neq_t, cop_neq_f, Bool.not_eq_true, Bool.not_eq_false, Bool.not_eq_true', Bool.not_eq_false', Bool.and_eq_true, Bool.or_eq_true, decide_eq_true_eq, decide_eq_false_iff_not, Bool.false_eq_true, Bool.true_eq_false, Option.bind_some, Option.some.injEq, false_iff, true_iff, iff_false, iff_true]; omega)]
      simp [firstNZ, hx, hy]
  · rw [if_pos (by simp only [cop_lss_t, cop_lss_f, cop_leq_t, cop_leq_f, cop_gtr_t, cop_gtr_f, cop_geq_t, cop_geq_f, cop_eql_t, cop_eql_f, cop_neq_t, cop_neq_f, Bool.not_eq_true, Bool.not_eq_false, Bool.not_eq_true', Bool.not_eq_false', Bool.and_eq_true, Bool.or_eq_true, decide_eq_true_eq, decide_eq_false_iff_not, Bool.false_eq_true, Bool.true_eq_false, Option.bind_some, Option.some.injEq, false_iff, true_iff, iff_false, iff_true]; omega)]
    simp [firstNZ, hx]

theorem s30 (a b c d e f : Int) : g30 a b c d e f = some (firstNZ (cmpI a d) (cmpI b e) (cmpI c f)) := by
  rw [g30_eq]
  simp only [s49, Option.bind_some, s48]

/-- node.Less -/
def idLt (a b c d e f : Int) : Bool := decide (a < d ∨ (a = d ∧ (b < e ∨ (b = e ∧ c < f))))

theorem s18 (a b c d e f : Int) : g18 a b c d e f = some (idLt a b c d e f) := by
  rw [g18_eq, s30, Option.bind_some]
  refine congrArg some ?_
  rw [bool_iff]
  simp only [idLt, cop_lss_t, cop_lss_f, cop_leq_t, cop_leq_f, cop_gtr_t, cop_gtr_f, cop_geq_t, cop_geq_f, cop_eql_t, cop_eql_f, cop_neq_t, cop_neq_f, Bool.not_eq_true, Bool.not_eq_false, Bool.not_eq_true', Bool.not_eq_false', Bool.and_eq_true, Bool.or_eq_true, decide_eq_true_eq, decide_eq_false_iff_not, Bool.false_eq_true, Bool.true_eq_false, Option.bind_some, Option.some.injEq, false_iff, true_iff, iff_false, iff_true, cmpI, firstNZ]
  repeat' split
  all_goals omega

theorem ids_len (l : List Id) : (idCells l).length = l.length := by simp [idCells]

theorem ids_take (l : List Id) (n : Nat) : (idCells l).take n = idCells (l.take n) := by simp [idCells, List.map_take]

theorem ids_at {l : List Id} {i : Nat} {x : Id} (h : l[i]? = some x) : (idCells l)[i]? = some (idc x) := by simp [idCells, h]

theorem elem_id {γ : Type} {l : List Id} {i : Int} {x : Id} (k : (Int × Int × Int) → Option γ) (h0 : 0 ≤ i) (h : l[i.toNat]? = some x) : elemK (idCells l) i idSh k = k (x.core, x.op, x.part) :=
  elemK_at (sh := idSh) (r := (x.core, x.op, x.part)) k h0 (ids_at h) rfl

theorem id_eqb (a b c d e f : Int) : ((cop .eql a d && (cop .eql b e && (cop .eql c f && true))) = true) ↔ ((⟨a, b, c⟩ : Id) = ⟨d, e, f⟩) := by
  simp only [cop_lss_t, cop_lss_f, cop_leq_t, cop_leq_f, cop_gtr_t, cop_gtr_f, cop_geq_t, cop_geq_f, cop_eql_t, cop_eql_f, cop_neq_t, cop_neq_f, Bool.not_eq_true, Bool.not_eq_false, Bool.not_eq_true', Bool.not_eq_false', Bool.and_eq_true, Bool.or_eq_true, decide_eq_true_eq, decide_eq_false_iff_not, Bool.false_eq_true, Bool.true_eq_false, Option.bind_some, Option.some.injEq, false_iff, true_iff, iff_false, iff_true, Id.mk.injEq, and_true]

theorem l39 {l : List Id} (hl : l.length < 2 ^ 62) (a b c : Int) : ∀ (j i fuel : Nat), l.length = i + j → j < fuel → ∃ r, g39L0 fuel (idCells l) a b c (l.length : Int) i = some r ∧ (0 ≤ r ↔ (⟨a, b, c⟩ : Id) ∈ l.drop i) := by
  intro j
  induction j with
  | zero =>
    intro i fuel h hf
    obtain ⟨f, rfl⟩ : ∃ f, fuel = f + 1 := ⟨fuel - 1, by omega⟩
    refine ⟨-1, by rw [g39L0_eq, if_neg (by simp only [cop_lss_t, cop_lss_f, cop_leq_t, cop_leq_f, cop_gtr_t, cop_gtr_f, cop_geq_t, cop_geq_f, cop_eql_t, cop_eql_f, cop_neq_t, cop_neq_f, Bool.not_eq_true, Bool.not_eq_false, Bool.not_eq_true', Bool.not_eq_false', Bool.and_eq_true, Bool.or_eq_true, decide_eq_true_eq, decide_eq_false_iff_not, Bool.false_eq_true, Bool.true_eq_false, Option.bind_some, Option.some.injEq, false_iff, true_iff, iff_false, iff_true]; omega)], ?_⟩
    rw [List.drop_of_length_le (by omega)]
    simp
  | succ j ih =>
    intro i fuel h hf
    obtain ⟨f, rfl⟩ : ∃ f, fuel = f + 1 := ⟨fuel - 1, by omega⟩
    have hi : i < l.length := by omega
    have hat : l[(i : Int).toNat]? = some l[i] := by simp
    have a4 : iop .add .i64 i 1 = ((i + 1 : Nat) : Int) := by rw [add_i (by omega) (by omega)]; omega
    rw [g39L0_eq, if_pos (by simp only [cop_lss_t, cop_lss_f, cop_leq_t, cop_leq_f, cop_gtr_t, cop_gtr_f, cop_geq_t, cop_geq_f, cop_eql_t, cop_eql_f, cop_neq_t, cop_neq_f, Bool.not_eq_true, Bool.not_eq_false, Bool.not_eq_true', Bool.not_eq_false', Bool.and_eq_true, Bool.or_eq_true, decide_eq_true_eq, decide_eq_false_iff_not, Bool.false_eq_true, Bool.true_eq_false, Option.bind_some, Option.some.injEq, false_iff, true_iff, iff_false, iff_true]; omega), elem_id _ (by omega) hat, a4, List.drop_eq_getElem_cons hi]
    by_cases he : (⟨a, b, c⟩ : Id) = l[i]
    · refine ⟨i, ?_, ?_⟩
      · rw [if_pos]
        rw [id_eqb]
        exact he
      · rw [List.mem_cons]
        exact ⟨fun _ => .inl he, fun _ => by omega⟩
    · obtain ⟨r, h1, h2⟩ := ih (i + 1) f (by omega) (by omega)
      refine ⟨r, ?_, ?_⟩
      · rw [if_neg, h1]
        rw [id_eqb]
        exact he
      · rw [h2, List.mem_cons]
        simp [he]

theorem s27 (l : List Id) (hl : l.length < 2 ^ 62) (a b c : Int) : g27 (idCells l) a b c = some (l.contains ⟨a, b, c⟩) := by
  obtain ⟨r, h1, h2⟩ := l39 hl a b c l.length 0 FUEL (by omega) (fuel_lt (by omega))
  rw [g27_eq, g39_eq, ids_len]
  have h1' : g39L0 FUEL (idCells l) a b c (l.length : Int) 0 = some r := h1
  rw [h1', Option.bind_some]
  refine congrArg some ?_
  rw [bool_iff]
  simp only [cop_lss_t, cop_lss_f, cop_leq_t, cop_leq_f, cop_gtr_t, cop_gtr_f, cop_geq_t, cop_geq_f, cop_eql_t, cop_eql_f, cop_neq_t, cop_neq_f, Bool.not_eq_true, Bool.not_eq_false, Bool.not_eq_true', Bool.not_eq_false', Bool.and_eq_true, Bool.or_eq_true, decide_eq_true_eq, decide_eq_false_iff_not, Bool.false_eq_true, Bool.true_eq_false, Option.bind_some, Option.some.injEq, false_iff, true_iff, iff_false, iff_true, List.contains_iff_mem]
  rw [List.drop_zero] at h2
  exact h2

structure Node where
  id : Id
  path : List Id
  cap : Cap

def pathAt (n : Node) (i : Nat) : Bool := match n.path[i]? with | none => true | some x => idOk x && decide (x ≠ n.id) && !(n.path.take i).contains x

/-- node.Valid -/
def nodeOk (n : Node) : Bool := idOk n.id && capOk n.cap && decide (n.path.length ≤ 8) && (List.range n.path.length).all (pathAt n)

theorem l16 (n : Node) (hl : n.path.length < 2 ^ 62) : ∀ (j i fuel : Nat), n.path.length = i + j → j < fuel →
    g16L0 fuel n.id.core n.id.op n.id.part (idCells n.path) n.cap.kind n.cap.base n.cap.bits n.cap.rights n.cap.width n.cap.level n.cap.device (idCells n.path) (n.path.length : Int) i = some ((List.range' i j).all (pathAt n)) := by
  intro j
  induction j with
  | zero =>
    intro i fuel h hf
    obtain ⟨f, rfl⟩ : ∃ f, fuel = f + 1 := ⟨fuel - 1, by omega⟩
    rw [g16L0_eq, if_neg (by simp only [cop_lss_t, cop_lss_f, cop_leq_t, cop_leq_f, cop_gtr_t, cop_gtr_f, cop_geq_t, cop_geq_f, cop_eql_t, cop_eql_f, cop_neq_t, cop_neq_f, Bool.not_eq_true, Bool.not_eq_false, Bool.not_eq_true', Bool.not_eq_false', Bool.and_eq_true, Bool.or_eq_true, decide_eq_true_eq, decide_eq_false_iff_not, Bool.false_eq_true, Bool.true_eq_false, Option.bind_some, Option.some.injEq, false_iff, true_iff, iff_false, iff_true]; omega)]
    rfl
  | succ j ih =>
    intro i fuel h hf
    obtain ⟨f, rfl⟩ : ∃ f, fuel = f + 1 := ⟨fuel - 1, by omega⟩
    have hi : i < n.path.length := by omega
    have hat : n.path[(i : Int).toNat]? = some n.path[i] := by simp
    have a4 : iop .add .i64 i 1 = ((i + 1 : Nat) : Int) := by rw [add_i (by omega) (by omega)]; omega
    have hp : pathAt n i = (idOk n.path[i] && decide (n.path[i] ≠ n.id) && !(n.path.take i).contains n.path[i]) := by
      unfold pathAt
      rw [List.getElem?_eq_getElem hi]
    have hlt : (n.path.take i).length < 2 ^ 62 := by rw [List.length_take]; omega
    rw [g16L0_eq, if_pos (by simp only [cop_lss_t, cop_lss_f, cop_leq_t, cop_leq_f, cop_gtr_t, cop_gtr_f, cop_geq_t, cop_geq_f, cop_eql_t, cop_eql_f, cop_neq_t, cop_neq_f, Bool.not_eq_true, Bool.not_eq_false, Bool.not_eq_true', Bool.not_eq_false', Bool.and_eq_true, Bool.or_eq_true, decide_eq_true_eq, decide_eq_false_iff_not, Bool.false_eq_true, Bool.true_eq_false, Option.bind_some, Option.some.injEq, false_iff, true_iff, iff_false, iff_true]; omega), elem_id _ (by omega) hat, a4, List.range'_succ, List.all_cons, hp]
    simp only [s14, Option.bind_some]
    cases h1 : idOk n.path[i] with
    | false => simp
    | true =>
      rw [if_neg (by simp)]
      by_cases h2 : n.path[i] = n.id
      · rw [if_pos (by rw [id_eqb]; exact h2)]
        simp [h2]
      · rw [if_neg (by rw [id_eqb]; exact h2), reqK_pos (by omega), reqK_pos (by rw [ids_len]; omega), Int.toNat_natCast, ids_take, s27 _ hlt, Option.bind_some]
        cases h3 : (n.path.take i).contains n.path[i] with
        | true => simp
        | false =>
          rw [if_neg (by simp)]
          have := ih (i + 1) f (by omega) (by omega)
          rw [this]
          simp [h2]

theorem s16 (n : Node) (hl : n.path.length < 2 ^ 62) : g16 n.id.core n.id.op n.id.part (idCells n.path) n.cap.kind n.cap.base n.cap.bits n.cap.rights n.cap.width n.cap.level n.cap.device = some (nodeOk n) := by
  rw [g16_eq]
  simp only [s14, s28, Option.bind_some, ids_len]
  unfold nodeOk
  cases h1 : idOk n.id with
  | false => simp [show (⟨n.id.core, n.id.op, n.id.part⟩ : Id) = n.id from rfl, h1]
  | true =>
    cases h2 : capOk n.cap with
    | false => simp [show (⟨n.id.core, n.id.op, n.id.part⟩ : Id) = n.id from rfl, h1, show (⟨n.cap.kind, n.cap.base, n.cap.bits, n.cap.rights, n.cap.width, n.cap.level, n.cap.device⟩ : Cap) = n.cap from rfl, h2]
    | true =>
      rw [if_neg (by simp), if_neg (by simp)]
      by_cases h3 : n.path.length ≤ 8
      · rw [if_neg (by simp only [cop_lss_t, cop_lss_f, cop_leq_t, cop_leq_f, cop_gtr_t, cop_gtr_f, cop_geq_t, cop_geq_f, cop_eql_t, cop_eql_f, cop_neq_t, cop_neq_f, Bool.not_eq_true, Bool.not_eq_false, Bool.not_eq_true', Bool.not_eq_false', Bool.and_eq_true, Bool.or_eq_true, decide_eq_true_eq, decide_eq_false_iff_not, Bool.false_eq_true, Bool.true_eq_false, Option.bind_some, Option.some.injEq, false_iff, true_iff, iff_false, iff_true]; omega)]
        have := l16 n hl n.path.length 0 FUEL (by omega) (fuel_lt (by omega))
        have e : (List.range' 0 n.path.length) = List.range n.path.length := (List.range_eq_range' ..).symm
        rw [e] at this
        refine this.trans ?_
        simp [h3]
      · rw [if_pos (by simp only [cop_lss_t, cop_lss_f, cop_leq_t, cop_leq_f, cop_gtr_t, cop_gtr_f, cop_geq_t, cop_geq_f, cop_eql_t, cop_eql_f, cop_neq_t, cop_neq_f, Bool.not_eq_true, Bool.not_eq_false, Bool.not_eq_true', Bool.not_eq_false', Bool.and_eq_true, Bool.or_eq_true, decide_eq_true_eq, decide_eq_false_iff_not, Bool.false_eq_true, Bool.true_eq_false, Option.bind_some, Option.some.injEq, false_iff, true_iff, iff_false, iff_true]; omega)]
        simp [h3]

theorem s22 (n : Node) (hl : n.path.length < 2 ^ 62) (a b c : Int) : g22 n.id.core n.id.op n.id.part (idCells n.path) n.cap.kind n.cap.base n.cap.bits n.cap.rights n.cap.width n.cap.level n.cap.device a b c = some (n.path.contains ⟨a, b, c⟩) := by
  rw [g22_eq, s27 _ hl, Option.bind_some]

theorem s33 (l : List Id) (hl : l.length ≤ 1000000) : g33 (idCells l) = some (idCells l) := by
  rw [g33_eq]
  refine nilK_of (fun h => ?_) ?_
  · rw [if_pos rfl, h]
  · rw [if_neg (by simp), reqK_pos (room_ok (by rw [ids_len, List.length_nil]; omega)), List.nil_append]

def childErr (n : Node) (i : Id) (c : Cap) : Int := if nodeOk n = false ∨ idOk i = false ∨ capOk c = false ∨ i = n.id ∨ n.path.contains i = true then 1 else if 8 ≤ n.path.length then 9 else 0

/-- node.Child -/
theorem s23 (n : Node) (hl : n.path.length < 2 ^ 62) (i : Id) (c : Cap) :
    g23 n.id.core n.id.op n.id.part (idCells n.path) n.cap.kind n.cap.base n.cap.bits n.cap.rights n.cap.width n.cap.level n.cap.device i.core i.op i.part c.kind c.base c.bits c.rights c.width c.level c.device =
      some (if childErr n i c = 0 then (i.core, i.op, i.part, idCells (n.path ++ [n.id]), c.kind, c.base, c.bits, c.rights, c.width, c.level, c.device, 0) else (0, 0, 0, [], 0, 0, 0, 0, 0, 0, false, childErr n i c)) := by
  rw [g23_eq]
  simp only [s16 n hl, s14, s28, s22 n hl, Option.bind_some, ids_len]
  refine ite_goal (fun h1 => ?_) fun h1 => ?_
  · have h1' : nodeOk n = false := by simpa using h1
    rw [show childErr n i c = 1 from if_pos (.inl h1')]; rfl
  have h1' : nodeOk n = true := by simpa using h1
  refine ite_goal (fun h2 => ?_) fun h2 => ?_
  · have h2' : idOk i = false := by simpa using h2
    rw [show childErr n i c = 1 from if_pos (.inr (.inl h2'))]; rfl
  have h2' : idOk i = true := by simpa using h2
  refine ite_goal (fun h3 => ?_) fun h3 => ?_
  · have h3' : capOk c = false := by simpa using h3
    rw [show childErr n i c = 1 from if_pos (.inr (.inr (.inl h3')))]; rfl
  have h3' : capOk c = true := by simpa using h3
  refine ite_goal (fun h4 => ?_) fun h4 => ?_
  · have h4' : i = n.id := by rw [id_eqb] at h4; exact h4
    rw [show childErr n i c = 1 from if_pos (.inr (.inr (.inr (.inl h4'))))]; rfl
  have h4' : ¬ i = n.id := by rw [id_eqb] at h4; exact h4
  refine ite_goal (fun h5 => ?_) fun h5 => ?_
  · have h5' : n.path.contains i = true := h5
    rw [show childErr n i c = 1 from if_pos (.inr (.inr (.inr (.inr h5'))))]; rfl
  have h5' : n.path.contains i = false := by simpa using h5
  have hn : ¬ (nodeOk n = false ∨ idOk i = false ∨ capOk c = false ∨ i = n.id ∨ n.path.contains i = true) := by
    rw [h1', h2', h3', h5']
    simp [h4']
  refine ite_goal (fun h6 => ?_) fun h6 => ?_
  · have h6' : 8 ≤ n.path.length := by simp only [cop_lss_t, cop_lss_f, cop_leq_t, cop_leq_f, cop_gtr_t, cop_gtr_f, cop_geq_t, cop_geq_f, cop_eql_t, cop_eql_f, cop_neq_t, cop_neq_f, Bool.not_eq_true, Bool.not_eq_false, Bool.not_eq_true', Bool.not_eq_false', Bool.and_eq_true, Bool.or_eq_true, decide_eq_true_eq, decide_eq_false_iff_not, Bool.false_eq_true, Bool.true_eq_false, Option.bind_some, Option.some.injEq, false_iff, true_iff, iff_false, iff_true] at h6; omega
    rw [show childErr n i c = 9 from (if_neg hn).trans (if_pos h6')]; rfl
  · have h6' : ¬ 8 ≤ n.path.length := by simp only [cop_lss_t, cop_lss_f, cop_leq_t, cop_leq_f, cop_gtr_t, cop_gtr_f, cop_geq_t, cop_geq_f, cop_eql_t, cop_eql_f, cop_neq_t, cop_neq_f, Bool.not_eq_true, Bool.not_eq_false, Bool.not_eq_true', Bool.not_eq_false', Bool.and_eq_true, Bool.or_eq_true, decide_eq_true_eq, decide_eq_false_iff_not, Bool.false_eq_true, Bool.true_eq_false, Option.bind_some, Option.some.injEq, false_iff, true_iff, iff_false, iff_true] at h6; omega
    rw [show childErr n i c = 0 from (if_neg hn).trans (if_neg h6'), if_pos rfl, s33 n.path (by omega), Option.bind_some, reqK_pos (room_ok (by rw [ids_len]; simp; omega))]
    simp [idCells, idc]

end Go.Proofs.Ytghkcniaialgnaa
end

section
namespace Go.Proofs.Ytghkcniaialgnaa
open Go Go.AM
set_option linter.unusedSimpArgs false
set_option linter.unusedVariables false
set_option maxRecDepth 100000

theorem s15 (a b c : Int) : g15 a b c = some (idOk ⟨a, b, c⟩) := by
  rw [g15_eq]
  repeat' split
  all_goals (refine congrArg some ?_; rw [bool_iff]; simp only [idOk, cop_lss_t, cop_lss_f, cop_leq_t, cop_leq_f, cop_gtr_t, cop_gtr_f, cop_geq_t, cop_geq_f, cop_eql_t, cop_eql_f, cop_neq_t, cop_neq_f, Bool.not_eq_true, Bool.not_eq_false, Bool.not_eq_true', Bool.not_eq_false', Bool.and_eq_true, Bool.or_eq_true, decide_eq_true_eq, decide_eq_false_iff_not, Bool.false_eq_true, Bool.true_eq_false, Option.bind_some, Option.some.injEq, false_iff, true_iff, iff_false, iff_true] at *; omega)

theorem l10 {l : List Id} (hl : l.length < 2 ^ 62) (a b c : Int) : ∀ (j i fuel : Nat), l.length = i + j → j < fuel → g10L0 fuel (idCells l) a b c i = some ((l.drop i).contains ⟨a, b, c⟩) := by
  intro j
  induction j with
  | zero =>
    intro i fuel h hf
    obtain ⟨f, rfl⟩ : ∃ f, fuel = f + 1 := ⟨fuel - 1, by omega⟩
    rw [g10L0_eq, if_neg (by simp only [cop_lss_t, cop_lss_f, cop_leq_t, cop_leq_f, cop_gtr_t, cop_gtr_f, cop_geq_t, cop_geq_f, cop_eql_t, cop_eql_f, cop_neq_t, cop_neq_f, Bool.not_eq_true, Bool.not_eq_false, Bool.not_eq_true', Bool.not_eq_false', Bool.and_eq_true, Bool.or_eq_true, decide_eq_true_eq, decide_eq_false_iff_not, Bool.false_eq_true, Bool.true_eq_false, Option.bind_some, Option.some.injEq, false_iff, true_iff, iff_false, iff_true, ids_len]; omega), List.drop_of_length_le (by omega)]
    rfl
  | succ j ih =>
    intro i fuel h hf
    obtain ⟨f, rfl⟩ : ∃ f, fuel = f + 1 := ⟨fuel - 1, by omega⟩
    have hi : i < l.length := by omega
    have hat : l[(i : Int).toNat]? = some l[i] := by simp
    have a4 : iop .add .i64 i 1 = ((i + 1 : Nat) : Int) := by rw [add_i (by omega) (by omega)]; omega
    rw [g10L0_eq, if_pos (by simp only [cop_lss_t, cop_lss_f, cop_leq_t, cop_leq_f, cop_gtr_t, cop_gtr_f, cop_geq_t, cop_geq_f, cop_eql_t, cop_eql_f, cop_neq_t, cop_neq_f, Bool.not_eq_true, Bool.not_eq_false, Bool.not_eq_true', Bool.not_eq_false', Bool.and_eq_true, Bool.or_eq_true, decide_eq_true_eq, decide_eq_false_iff_not, Bool.false_eq_true, Bool.true_eq_false, Option.bind_some, Option.some.injEq, false_iff, true_iff, iff_false, iff_true, ids_len]; omega), elem_id _ (by omega) hat, a4, List.drop_eq_getElem_cons hi, List.contains_cons]
    by_cases he : l[i] = (⟨a, b, c⟩ : Id)
    · rw [if_pos (by rw [id_eqb]; exact he)]
      simp [he]
    · rw [if_neg (by rw [id_eqb]; exact he), ih (i + 1) f (by omega) (by omega)]
      have : ((⟨a, b, c⟩ : Id) == l[i]) = false := by simp; exact fun h => he h.symm
      rw [this, Bool.false_or]

theorem s10 (l : List Id) (hl : l.length < 2 ^ 62) (a b c : Int) : g10 (idCells l) a b c = some (l.contains ⟨a, b, c⟩) := by
  have := l10 hl a b c l.length 0 FUEL (by omega) (fuel_lt (by omega))
  rw [g10_eq]
  exact this

def pathRef (n : Node) (i : Nat) : Bool := match n.path[i]? with | none => true | some x => idOk x && !(n.path.take i).contains x

theorem nodeOk_ref (n : Node) : nodeOk n = (idOk n.id && capOk n.cap && decide (n.path.length ≤ 8) && (!n.path.contains n.id && (List.range n.path.length).all (pathRef n))) := by
  unfold nodeOk
  congr 1
  rw [bool_iff]
  simp only [Bool.and_eq_true, List.all_eq_true, List.mem_range, Bool.not_eq_true', ← Bool.not_eq_true, List.contains_iff_mem]
  constructor
  · intro h
    refine ⟨fun hc => ?_, fun i hi => ?_⟩
    · obtain ⟨i, hi⟩ := List.mem_iff_getElem?.1 hc
      have := h i (List.getElem?_eq_some_iff.1 hi).1
      unfold pathAt at this
      rw [hi] at this
      simp at this
    · have := h i hi
      unfold pathAt at this
      unfold pathRef
      rw [List.getElem?_eq_getElem hi] at this ⊢
      simp only [Bool.and_eq_true] at this ⊢
      exact ⟨this.1.1, this.2⟩
  · intro ⟨h1, h2⟩ i hi
    have := h2 i hi
    unfold pathRef at this
    unfold pathAt
    rw [List.getElem?_eq_getElem hi] at this ⊢
    simp only [Bool.and_eq_true, decide_eq_true_eq] at this ⊢
    exact ⟨⟨this.1, fun he => h1 (he ▸ List.getElem_mem hi)⟩, this.2⟩

theorem l17 (n : Node) (hl : n.path.length < 2 ^ 62) : ∀ (j i fuel : Nat), n.path.length = i + j → j < fuel →
    g17L0 fuel n.id.core n.id.op n.id.part (idCells n.path) n.cap.kind n.cap.base n.cap.bits n.cap.rights n.cap.width n.cap.level n.cap.device i = some ((List.range' i j).all (pathRef n)) := by
  intro j
  induction j with
  | zero =>
    intro i fuel h hf
    obtain ⟨f, rfl⟩ : ∃ f, fuel = f + 1 := ⟨fuel - 1, by omega⟩
    rw [g17L0_eq, if_neg (by simp only [cop_lss_t, cop_lss_f, cop_leq_t, cop_leq_f, cop_gtr_t, cop_gtr_f, cop_geq_t, cop_geq_f, cop_eql_t, cop_eql_f, cop_neq_t, cop_neq_f, Bool.not_eq_true, Bool.not_eq_false, Bool.not_eq_true', Bool.not_eq_false', Bool.and_eq_true, Bool.or_eq_true, decide_eq_true_eq, decide_eq_false_iff_not, Bool.false_eq_true, Bool.true_eq_false, Option.bind_some, Option.some.injEq, false_iff, true_iff, iff_false, iff_true, ids_len]; omega)]
    rfl
  | succ j ih =>
    intro i fuel h hf
    obtain ⟨f, rfl⟩ : ∃ f, fuel = f + 1 := ⟨fuel - 1, by omega⟩
    have hi : i < n.path.length := by omega
    have hat : n.path[(i : Int).toNat]? = some n.path[i] := by simp
    have a4 : iop .add .i64 i 1 = ((i + 1 : Nat) : Int) := by rw [add_i (by omega) (by omega)]; omega
    have hp : pathRef n i = (idOk n.path[i] && !(n.path.take i).contains n.path[i]) := by
      unfold pathRef
      rw [List.getElem?_eq_getElem hi]
    have hlt : (n.path.take i).length < 2 ^ 62 := by rw [List.length_take]; omega
    rw [g17L0_eq, if_pos (by simp only [cop_lss_t, cop_lss_f, cop_leq_t, cop_leq_f, cop_gtr_t, cop_gtr_f, cop_geq_t, cop_geq_f, cop_eql_t, cop_eql_f, cop_neq_t, cop_neq_f, Bool.not_eq_true, Bool.not_eq_false, Bool.not_eq_true', Bool.not_eq_false', Bool.and_eq_true, Bool.or_eq_true, decide_eq_true_eq, decide_eq_false_iff_not, Bool.false_eq_true, Bool.true_eq_false, Option.bind_some, Option.some.injEq, false_iff, true_iff, iff_false, iff_true, ids_len]; omega), elem_id _ (by omega) hat, a4, List.range'_succ, List.all_cons, hp]
    simp only [s15, Option.bind_some]
    cases h1 : idOk n.path[i] with
    | false => simp
    | true =>
      rw [if_neg (by simp), reqK_pos (by omega), reqK_pos (by rw [ids_len]; omega), elem_id _ (by omega) hat, Int.toNat_natCast, ids_take, s10 _ hlt, Option.bind_some]
      cases h3 : (n.path.take i).contains n.path[i] with
      | true => simp
      | false =>
        rw [if_neg (by simp)]
        have := ih (i + 1) f (by omega) (by omega)
        rw [this]
        simp

theorem s17 (n : Node) (hl : n.path.length < 2 ^ 62) : g17 n.id.core n.id.op n.id.part (idCells n.path) n.cap.kind n.cap.base n.cap.bits n.cap.rights n.cap.width n.cap.level n.cap.device = some (nodeOk n) := by
  rw [g17_eq, nodeOk_ref]
  simp only [s15, s29, Option.bind_some, ids_len, s10 _ hl]
  cases h1 : idOk n.id with
  | false => simp [show (⟨n.id.core, n.id.op, n.id.part⟩ : Id) = n.id from rfl, h1]
  | true =>
    cases h2 : capOk n.cap with
    | false => simp [show (⟨n.id.core, n.id.op, n.id.part⟩ : Id) = n.id from rfl, h1, show (⟨n.cap.kind, n.cap.base, n.cap.bits, n.cap.rights, n.cap.width, n.cap.level, n.cap.device⟩ : Cap) = n.cap from rfl, h2]
    | true =>
      rw [if_neg (by simp), if_neg (by simp)]
      by_cases h3 : n.path.length ≤ 8
      · rw [if_neg (by simp only [cop_lss_t, cop_lss_f, cop_leq_t, cop_leq_f, cop_gtr_t, cop_gtr_f, cop_geq_t, cop_geq_f, cop_eql_t, cop_eql_f, cop_neq_t, cop_neq_f, Bool.not_eq_true, Bool.not_eq_false, Bool.not_eq_true', Bool.not_eq_false', Bool.and_eq_true, Bool.or_eq_true, decide_eq_true_eq, decide_eq_false_iff_not, Bool.false_eq_true, Bool.true_eq_false, Option.bind_some, Option.some.injEq, false_iff, true_iff, iff_false, iff_true]; omega)]
        cases h4 : n.path.contains n.id with
        | true => simp
        | false =>
          rw [if_neg (by simp)]
          have := l17 n hl n.path.length 0 FUEL (by omega) (fuel_lt (by omega))
          have e : (List.range' 0 n.path.length) = List.range n.path.length := (List.range_eq_range' ..).symm
          rw [e] at this
          refine this.trans ?_
          simp [h3]
      · rw [if_pos (by simp only [cop_lss_t, cop_lss_f, cop_leq_t, cop_leq_f, cop_gtr_t, cop_gtr_f, cop_geq_t, cop_geq_f, cop_eql_t, cop_eql_f, cop_neq_t, cop_neq_f, Bool.not_eq_true, Bool.not_eq_false, Bool.not_eq_true', Bool.not_eq_false', Bool.and_eq_true, Bool.or_eq_true, decide_eq_true_eq, decide_eq_false_iff_not, Bool.false_eq_true, Bool.true_eq_false, Option.bind_some, Option.some.injEq, false_iff, true_iff, iff_false, iff_true]; omega)]
        simp [h3]

theorem s12 (l : List Id) (hl : l.length ≤ 1000000) : g12 (idCells l) = some (idCells l) := by
  rw [g12_eq, reqK_pos (room_ok (by rw [ids_len, List.length_nil]; omega))]

theorem s11 (n : Node) (hl : n.path.length ≤ 1000000) : g11 n.id.core n.id.op n.id.part (idCells n.path) n.cap.kind n.cap.base n.cap.bits n.cap.rights n.cap.width n.cap.level n.cap.device =
    some (n.id.core, n.id.op, n.id.part, idCells n.path, n.cap.kind, n.cap.base, n.cap.bits, n.cap.rights, n.cap.width, n.cap.level, n.cap.device) := by
  rw [g11_eq, s12 _ hl, Option.bind_some]

theorem l32 {l m : List Id} (hl : l.length < 2 ^ 62) (hm : l.length = m.length) : ∀ (j i fuel : Nat), l.length = i + j → j < fuel → g32L0 fuel (idCells l) (idCells m) i = some (decide (l.drop i = m.drop i)) := by
  intro j
  induction j with
  | zero =>
    intro i fuel h hf
    obtain ⟨f, rfl⟩ : ∃ f, fuel = f + 1 := ⟨fuel - 1, by omega⟩
    rw [g32L0_eq, if_neg (by simp only [cop_lss_t, cop_lss_f, cop_leq_t, cop_leq_f, cop_gtr_t, cop_gtr_f, cop_geq_t, cop_geq_f, cop_eql_t, cop_eql_f, cop_neq_t, cop_neq_f, Bool.not_eq_true, Bool.not_eq_false, Bool.not_eq_true', Bool.not_eq_false', Bool.and_eq_true, Bool.or_eq_true, decide_eq_true_eq, decide_eq_false_iff_not, Bool.false_eq_true, Bool.true_eq_false, Option.bind_some, Option.some.injEq, false_iff, true_iff, iff_false, iff_true, ids_len]; omega), List.drop_of_length_le (by omega), List.drop_of_length_le (by omega)]
    rfl
  | succ j ih =>
    intro i fuel h hf
    obtain ⟨f, rfl⟩ : ∃ f, fuel = f + 1 := ⟨fuel - 1, by omega⟩
    have hi : i < l.length := by omega
    have hi' : i < m.length := by omega
    have hat : l[(i : Int).toNat]? = some l[i] := by simp
    have hat' : m[(i : Int).toNat]? = some m[i] := by simp
    have a4 : iop .add .i64 i 1 = ((i + 1 : Nat) : Int) := by rw [add_i (by omega) (by omega)]; omega
    rw [g32L0_eq, if_pos (by simp only [cop_lss_t, cop_lss_f, cop_leq_t, cop_leq_f, cop_gtr_t, cop_gtr_f, cop_geq_t, cop_geq_f, cop_eql_t, cop_eql_f, cop_neq_t, cop_neq_f, Bool.not_eq_true, Bool.not_eq_false, Bool.not_eq_true', Bool.not_eq_false', Bool.and_eq_true, Bool.or_eq_true, decide_eq_true_eq, decide_eq_false_iff_not, Bool.false_eq_true, Bool.true_eq_false, Option.bind_some, Option.some.injEq, false_iff, true_iff, iff_false, iff_true, ids_len]; omega), elem_id _ (by omega) hat, elem_id _ (by omega) hat', a4, List.drop_eq_getElem_cons hi, List.drop_eq_getElem_cons hi']
    by_cases he : l[i] = m[i]
    · rw [if_neg (by rw [Bool.not_eq_true', ← Bool.not_eq_true, id_eqb]; exact fun h => h he), ih (i + 1) f (by omega) (by omega)]
      simp only [he, List.cons.injEq, true_and]
    · rw [if_pos (by rw [Bool.not_eq_true', ← Bool.not_eq_true, id_eqb]; exact he)]
      simp only [List.cons.injEq, he, false_and, decide_false]

theorem s32 (l m : List Id) (hl : l.length < 2 ^ 62) (hm : m.length < 2 ^ 62) : g32 (idCells l) (idCells m) = some (decide (l = m)) := by
  rw [g32_eq, ids_len, ids_len]
  by_cases h : l.length = m.length
  · rw [if_neg (by simp only [cop_lss_t, cop_lss_f, cop_leq_t, cop_leq_f, cop_gtr_t, cop_gtr_f, cop_geq_t, cop_geq_f, cop_eql_t, cop_eql_f, cop_neq_t, cop_neq_f, Bool.not_eq_true, Bool.not_eq_false, Bool.not_eq_true', Bool.not_eq_false', Bool.and_eq_true, Bool.or_eq_true, decide_eq_true_eq, decide_eq_false_iff_not, Bool.false_eq_true, Bool.true_eq_false, Option.bind_some, Option.some.injEq, false_iff, true_iff, iff_false, iff_true]; omega)]
    have := l32 hl h l.length 0 FUEL (by omega) (fuel_lt (by omega))
    rw [List.drop_zero, List.drop_zero] at this
    exact this
  · rw [if_pos (by simp only [cop_lss_t, cop_lss_f, cop_leq_t, cop_leq_f, cop_gtr_t, cop_gtr_f, cop_geq_t, cop_geq_f, cop_eql_t, cop_eql_f, cop_neq_t, cop_neq_f, Bool.not_eq_true, Bool.not_eq_false, Bool.not_eq_true', Bool.not_eq_false', Bool.and_eq_true, Bool.or_eq_true, decide_eq_true_eq, decide_eq_false_iff_not, Bool.false_eq_true, Bool.true_eq_false, Option.bind_some, Option.some.injEq, false_iff, true_iff, iff_false, iff_true]; omega)]
    have : ¬ l = m := fun he => h (by rw [he])
    simp [this]

theorem s21 (a b c : Int) (l : List Id) (hl : l.length < 2 ^ 62) (k bs s r w lv : Int) (d : Bool) : g21 a b c (idCells l) k bs s r w lv d a b c (idCells l) k bs s r w lv d = some true := by
  rw [g21_eq, s32 l l hl hl, if_pos (by simp [cop]), if_pos (by simp [cop]), Option.bind_some]
  simp

end Go.Proofs.Ytghkcniaialgnaa
end

section
namespace Go.Proofs.Ytghkcniaialgnaa
open Go Go.AM
set_option linter.unusedSimpArgs false
set_option linter.unusedVariables false
set_option maxRecDepth 100000

def page : Cap := ⟨2, 4096, 12, 3, 0, 0, false⟩

theorem s7 : g7 = some (page.kind, page.base, page.bits, page.rights, page.width, page.level, page.device) := g7_eq

theorem s25 (a b c : Int) : g25 a b c = some (a % 4, 1 + b % 12, c % 3) := by
  rw [g25_eq, s37 a 4 (by omega) (by omega), Option.bind_some, s37 b 12 (by omega) (by omega), Option.bind_some, s37 c 3 (by omega) (by omega), Option.bind_some, add_i (by omega) (by omega)]

/-- The Ids of the chain, and its nodes. -/
def ida (c : Nat) (i : Nat) : Id := if i = 0 then ⟨c, 1, 0⟩ else ⟨5, i, 0⟩

def ndp (c i : Nat) : List Id := (List.range i).map (ida c)

def nd (c i : Nat) : Node := ⟨ida c i, ndp c i, page⟩

theorem child_nd : ∀ (c : Fin 4) (i : Fin 9), childErr (nd c.val i.val) (ida c.val (i.val + 1)) page = if i.val < 8 then 0 else 9 := by decide +kernel

end Go.Proofs.Ytghkcniaialgnaa
end

section
namespace Go.Proofs.Ytghkcniaialgnaa
open Go Go.AM
set_option linter.unusedSimpArgs false
set_option linter.unusedVariables false
set_option maxRecDepth 100000

def GoodIds (m : List Id) : Prop := (∀ x ∈ m, idOk x = true) ∧ m.Nodup ∧ m.length ≤ 8

theorem idOk_mk (a b c : Int) : idOk ⟨a % 4, 1 + b % 12, c % 3⟩ = true := by simp only [idOk, decide_eq_true_eq]; omega

theorem ints_at {l : List Int} {i : Nat} {z : Int} (h : l[i]? = some z) : (intCells l)[i]? = some (i64c z) := by simp [intCells, h]

theorem ints_len (l : List Int) : (intCells l).length = l.length := by simp [intCells]

theorem elem_i64 {γ : Type} {l : List Int} {i : Int} {z : Int} (k : Int → Option γ) (h0 : 0 ≤ i) (h : l[i.toNat]? = some z) : elemK (intCells l) i [.int .i64] k = k z :=
  elemK_at (sh := [.int .i64]) (r := z) k h0 (ints_at h) rfl

theorem ids_snoc (l : List Id) (x : Id) : idCells l ++ (([] : List (List AV)) ++ [[AV.val (.int .i64 x.core), AV.val (.int .i64 x.op), AV.val (.int .i64 x.part)]]) = idCells (l ++ [x]) := by
  simp [idCells, idc]

theorem l8 {l : List Int} (hl : l.length < 2 ^ 62) : ∀ (j i fuel : Nat) (acc : List Id), l.length = i + j → j < fuel → GoodIds acc → ∃ m, g8L0 fuel (intCells l) (idCells acc) i = some (idCells m) ∧ GoodIds m := by
  intro j
  induction j with
  | zero =>
    intro i fuel acc h hf ha
    obtain ⟨f, rfl⟩ : ∃ f, fuel = f + 1 := ⟨fuel - 1, by omega⟩
    exact ⟨acc, by rw [g8L0_eq, if_neg (by simp only [cop_lss_t, cop_lss_f, cop_leq_t, cop_leq_f, cop_gtr_t, cop_gtr_f, cop_geq_t, cop_geq_f, cop_eql_t, cop_eql_f, cop_neq_t, cop_neq_f, Bool.not_eq_true, Bool.not_eq_false, Bool.not_eq_true', Bool.not_eq_false', Bool.and_eq_true, Bool.or_eq_true, decide_eq_true_eq, decide_eq_false_iff_not, Bool.false_eq_true, Bool.true_eq_false, Option.bind_some, Option.some.injEq, false_iff, true_iff, iff_false, iff_true, ints_len]; omega)], ha⟩
  | succ j ih =>
    intro i fuel acc h hf ha
    obtain ⟨f, rfl⟩ : ∃ f, fuel = f + 1 := ⟨fuel - 1, by omega⟩
    have hi : i < l.length := by omega
    have hat : l[(i : Int).toNat]? = some l[i] := by simp
    have a4 : iop .add .i64 i 1 = ((i + 1 : Nat) : Int) := by rw [add_i (by omega) (by omega)]; omega
    have h8 := ha.2.2
    rw [g8L0_eq, if_pos (by simp only [cop_lss_t, cop_lss_f, cop_leq_t, cop_leq_f, cop_gtr_t, cop_gtr_f, cop_geq_t, cop_geq_f, cop_eql_t, cop_eql_f, cop_neq_t, cop_neq_f, Bool.not_eq_true, Bool.not_eq_false, Bool.not_eq_true', Bool.not_eq_false', Bool.and_eq_true, Bool.or_eq_true, decide_eq_true_eq, decide_eq_false_iff_not, Bool.false_eq_true, Bool.true_eq_false, Option.bind_some, Option.some.injEq, false_iff, true_iff, iff_false, iff_true, ints_len]; omega), ids_len]
    by_cases hlen : acc.length < 8
    · rw [if_pos (by simp only [cop_lss_t, cop_lss_f, cop_leq_t, cop_leq_f, cop_gtr_t, cop_gtr_f, cop_geq_t, cop_geq_f, cop_eql_t, cop_eql_f, cop_neq_t, cop_neq_f, Bool.not_eq_true, Bool.not_eq_false, Bool.not_eq_true', Bool.not_eq_false', Bool.and_eq_true, Bool.or_eq_true, decide_eq_true_eq, decide_eq_false_iff_not, Bool.false_eq_true, Bool.true_eq_false, Option.bind_some, Option.some.injEq, false_iff, true_iff, iff_false, iff_true]; omega), elem_i64 _ (by omega) hat, elem_i64 _ (by omega) hat, reqK_pos (by decide), elem_i64 _ (by omega) hat, reqK_pos (by decide), s25, Option.bind_some]
      dsimp only
      generalize hb : iop .quo .i64 l[i] 4 = b
      generalize hc : iop .quo .i64 l[i] 48 = c
      rw [s10 acc (by omega), Option.bind_some, a4]
      have hid := idOk_mk l[i] b c
      have hsn := ids_snoc acc ⟨l[i] % 4, 1 + b % 12, c % 3⟩
      dsimp only at hsn
      cases hcon : acc.contains (⟨l[i] % 4, 1 + b % 12, c % 3⟩ : Id) with
      | true =>
        rw [if_neg (by simp)]
        exact ih (i + 1) f acc (by omega) (by omega) ha
      | false =>
        rw [if_pos (by simp), reqK_pos (room_ok (by rw [ids_len]; simp; omega)), hsn]
        refine ih (i + 1) f _ (by omega) (by omega) ⟨fun x hx => ?_, ?_, by rw [List.length_append]; simp; omega⟩
        · rcases List.mem_append.1 hx with hx | hx
          · exact ha.1 x hx
          · rw [List.mem_singleton.1 hx]; exact hid
        · rw [List.nodup_append]
          refine ⟨ha.2.1, by simp, fun x hx y hy => ?_⟩
          rw [List.mem_singleton.1 hy]
          intro he
          subst he
          rw [← List.contains_iff_mem, hcon] at hx
          cases hx
    · rw [if_neg (by simp only [cop_lss_t, cop_lss_f, cop_leq_t, cop_leq_f, cop_gtr_t, cop_gtr_f, cop_geq_t, cop_geq_f, cop_eql_t, cop_eql_f, cop_neq_t, cop_neq_f, Bool.not_eq_true, Bool.not_eq_false, Bool.not_eq_true', Bool.not_eq_false', Bool.and_eq_true, Bool.or_eq_true, decide_eq_true_eq, decide_eq_false_iff_not, Bool.false_eq_true, Bool.true_eq_false, Option.bind_some, Option.some.injEq, false_iff, true_iff, iff_false, iff_true]; omega)]
      exact ⟨acc, rfl, ha⟩

theorem s8 (l : List Int) (hl : l.length < 2 ^ 62) : ∃ m, g8 (intCells l) = some (idCells m) ∧ GoodIds m := by
  obtain ⟨m, h1, h2⟩ := l8 hl l.length 0 FUEL [] (by omega) (fuel_lt (by omega)) ⟨by simp, by simp, by simp⟩
  exact ⟨m, by rw [g8_eq]; exact h1, h2⟩

theorem l6 {m : List Id} (hm : GoodIds m) (i : Id) (cp : Cap) (y0 y1 y2 : Int) (y3 : List (List AV)) (y4 y5 y6 y7 y8 y9 : Int) (y10 : Bool) : ∀ (j k fuel : Nat) (p : List Id), m.length = k + j → j < fuel → p.length ≤ k →
    g6L0 fuel y0 y1 y2 y3 y4 y5 y6 y7 y8 y9 y10 i.core i.op i.part (idCells p) cp.kind cp.base cp.bits cp.rights cp.width cp.level cp.device (idCells m) k =
      some (i.core, i.op, i.part, idCells (p ++ (m.drop k).filter fun x => decide (x ≠ i)), cp.kind, cp.base, cp.bits, cp.rights, cp.width, cp.level, cp.device) := by
  have h8 := hm.2.2
  intro j
  induction j with
  | zero =>
    intro k fuel p h hf hp
    obtain ⟨f, rfl⟩ : ∃ f, fuel = f + 1 := ⟨fuel - 1, by omega⟩
    rw [g6L0_eq, if_neg (by simp only [cop_lss_t, cop_lss_f, cop_leq_t, cop_leq_f, cop_gtr_t, cop_gtr_f, cop_geq_t, cop_geq_f, cop_eql_t, cop_eql_f, cop_neq_t, cop_neq_f, Bool.not_eq_true, Bool.not_eq_false, Bool.not_eq_true', Bool.not_eq_false', Bool.and_eq_true, Bool.or_eq_true, decide_eq_true_eq, decide_eq_false_iff_not, Bool.false_eq_true, Bool.true_eq_false, Option.bind_some, Option.some.injEq, false_iff, true_iff, iff_false, iff_true, ids_len]; omega), List.drop_of_length_le (by omega)]
    simp
  | succ j ih =>
    intro k fuel p h hf hp
    obtain ⟨f, rfl⟩ : ∃ f, fuel = f + 1 := ⟨fuel - 1, by omega⟩
    have hi : k < m.length := by omega
    have hat : m[(k : Int).toNat]? = some m[k] := by simp
    have a4 : iop .add .i64 k 1 = ((k + 1 : Nat) : Int) := by rw [add_i (by omega) (by omega)]; omega
    rw [g6L0_eq, if_pos (by simp only [cop_lss_t, cop_lss_f, cop_leq_t, cop_leq_f, cop_gtr_t, cop_gtr_f, cop_geq_t, cop_geq_f, cop_eql_t, cop_eql_f, cop_neq_t, cop_neq_f, Bool.not_eq_true, Bool.not_eq_false, Bool.not_eq_true', Bool.not_eq_false', Bool.and_eq_true, Bool.or_eq_true, decide_eq_true_eq, decide_eq_false_iff_not, Bool.false_eq_true, Bool.true_eq_false, Option.bind_some, Option.some.injEq, false_iff, true_iff, iff_false, iff_true, ids_len]; omega), elem_id _ (by omega) hat, a4, List.drop_eq_getElem_cons hi]
    by_cases he : m[k] = i
    · rw [if_neg (by rw [Bool.not_eq_true', ← Bool.not_eq_true, id_eqb]; exact fun h => h he), ih (k + 1) f p (by omega) (by omega) (by omega), List.filter_cons_of_neg (by simp [he])]
    · have hsn := ids_snoc p m[k]
      rw [if_pos (by rw [Bool.not_eq_true', ← Bool.not_eq_true, id_eqb]; exact he), s12 p (by omega), Option.bind_some, elem_id _ (by omega) hat, reqK_pos (room_ok (by rw [ids_len]; simp; omega))]
      dsimp only
      rw [hsn, ih (k + 1) f _ (by omega) (by omega) (by rw [List.length_append]; simp; omega), List.filter_cons_of_pos (by simp [he])]
      simp [List.append_assoc]

/-- make.Node's node -/
theorem made_ok {m : List Id} (hm : GoodIds m) {i : Id} (hi : idOk i = true) {cp : Cap} (hc : capOk cp = true) : nodeOk ⟨i, m.filter fun x => decide (x ≠ i), cp⟩ = true := by
  obtain ⟨h1, h2, h3⟩ := hm
  have hn : (m.filter fun x => decide (x ≠ i)).Nodup := h2.filter _
  have hl : (m.filter fun x => decide (x ≠ i)).length ≤ 8 := Nat.le_trans (List.length_filter_le _ _) h3
  have hmem : ∀ x ∈ m.filter (fun x => decide (x ≠ i)), idOk x = true ∧ x ≠ i := fun x hx => by
    rw [List.mem_filter] at hx
    exact ⟨h1 x hx.1, by simpa using hx.2⟩
  generalize m.filter (fun x => decide (x ≠ i)) = p at *
  simp only [nodeOk, Bool.and_eq_true, decide_eq_true_eq, List.all_eq_true, List.mem_range]
  refine ⟨⟨⟨hi, hc⟩, hl⟩, fun k hk => ?_⟩
  unfold pathAt
  rw [List.getElem?_eq_getElem hk]
  obtain ⟨a1, a2⟩ := hmem p[k] (List.getElem_mem hk)
  simp only [Bool.and_eq_true, decide_eq_true_eq, Bool.not_eq_true', ← Bool.not_eq_true, List.contains_iff_mem]
  refine ⟨⟨a1, a2⟩, fun hin => ?_⟩
  obtain ⟨j, hj⟩ := List.mem_iff_getElem?.1 hin
  rw [List.getElem?_take] at hj
  split at hj
  · rename_i hjk
    have hjl : j < p.length := by omega
    rw [List.getElem?_eq_getElem hjl] at hj
    simp only [Option.some.injEq] at hj
    exact (List.pairwise_iff_getElem.1 hn) j k hjl hk hjk hj
  · cases hj

theorem s6 (a b c : Int) (l : List Int) (hl : l.length < 2 ^ 62) (cp : Cap) (hc : capOk cp = true) : ∃ n : Node, nodeOk n = true ∧ n.cap = cp ∧
    g6 a b c (intCells l) cp.kind cp.base cp.bits cp.rights cp.width cp.level cp.device = some (n.id.core, n.id.op, n.id.part, idCells n.path, n.cap.kind, n.cap.base, n.cap.bits, n.cap.rights, n.cap.width, n.cap.level, n.cap.device) := by
  obtain ⟨m, h1, h2⟩ := s8 l hl
  have h8 := h2.2.2
  refine ⟨⟨⟨a % 4, 1 + b % 12, c % 3⟩, m.filter fun x => decide (x ≠ ⟨a % 4, 1 + b % 12, c % 3⟩), cp⟩, made_ok h2 (idOk_mk a b c) hc, rfl, ?_⟩
  rw [g6_eq, s25, Option.bind_some, h1, Option.bind_some]
  have := l6 h2 ⟨a % 4, 1 + b % 12, c % 3⟩ cp 0 0 0 ([] : List (List AV)) 0 0 0 0 0 0 false m.length 0 FUEL [] (by omega) (fuel_lt (by omega)) (Nat.le_refl _)
  exact this

theorem child_good {n : Node} {i : Id} {c : Cap} (h : childErr n i c = 0) : nodeOk n = true ∧ idOk i = true ∧ capOk c = true ∧ i ≠ n.id ∧ i ∉ n.path ∧ n.path.length < 8 := by
  unfold childErr at h
  split at h
  · cases h
  · rename_i hn
    split at h
    · cases h
    · rename_i h8
      refine ⟨?_, ?_, ?_, ?_, ?_, by omega⟩
      · cases hh : nodeOk n with
        | true => rfl
        | false => exact (hn (.inl hh)).elim
      · cases hh : idOk i with
        | true => rfl
        | false => exact (hn (.inr (.inl hh))).elim
      · cases hh : capOk c with
        | true => rfl
        | false => exact (hn (.inr (.inr (.inl hh)))).elim
      · exact fun hh => hn (.inr (.inr (.inr (.inl hh))))
      · exact fun hh => hn (.inr (.inr (.inr (.inr (List.contains_iff_mem.2 hh)))))

end Go.Proofs.Ytghkcniaialgnaa
end

section
namespace Go.Proofs.Ytghkcniaialgnaa
open Go Go.AM
set_option linter.unusedSimpArgs false
set_option linter.unusedVariables false
set_option maxRecDepth 100000

theorem s5 : g5 = some true := by kernel_rfl

theorem s19 (a b c d e f : Int) : g19 a b c d e f = some (idLt a b c d e f) := by
  rw [g19_eq]
  repeat' split
  all_goals (refine congrArg some ?_; rw [bool_iff]; simp only [idLt, CQ] at *; omega)

def t3 (x : Id) : Id3 := (x.core, x.op, x.part)
def hitL (v p : List Id) : List (Id3 × Bool) := p.map fun x => (t3 x, v.contains x)

theorem hits_ids (v : List Id) (hv : v.length < 2 ^ 62) : ∀ p : List Id, hitsOf (idCells v) (idCells p) = some (hitL v p)
  | [] => rfl
  | x :: p => by
    have e : idCells (x :: p) = idc x :: idCells p := rfl
    rw [e, hitsOf]
    have h1 : idOf3 (idc x) = some (t3 x) := rfl
    rw [h1]
    have h2 := s27 v hv x.core x.op x.part
    simp only [t3, h2, hits_ids v hv p]
    rfl

def par (v p : List Id) : Id3 × Bool := lastHit (hitL v p)

theorem hit_len (v p : List Id) : (hitL v p).length = p.length := by simp [hitL]

theorem s9 (n : Node) (v : List Id) (hn : n.path.length < 2 ^ 62) (hv : v.length < 2 ^ 62) : g9 n.id.core n.id.op n.id.part (idCells n.path) n.cap.kind n.cap.base n.cap.bits n.cap.rights n.cap.width n.cap.level n.cap.device (idCells v) = some ((par v n.path).1.1, (par v n.path).1.2.1, (par v n.path).1.2.2, (par v n.path).2) := by
  rw [g9_eq, parR, hits_ids v hv]
  exact reqK_pos (by rw [hit_len]; omega) _

theorem hit_at (v p : List Id) (i : Nat) (hi : i < p.length) : (hitL v p)[i]'(by rw [hit_len]; exact hi) = (t3 p[i], v.contains p[i]) := by simp [hitL]

theorem par_none (v p : List Id) (h : ∀ (i : Nat) (hi : i < p.length), v.contains p[i] = false) : par v p = ((0, 0, 0), false) := by
  refine lastHit_none _ fun q hq => ?_
  obtain ⟨i, hi, rfl⟩ := List.getElem_of_mem hq
  rw [hit_len] at hi
  rw [hit_at v p i hi]
  exact h i hi

theorem par_at (v p : List Id) (i : Nat) (hi : i < p.length) (h : v.contains p[i] = true) (hn : ∀ (j : Nat) (hj : j < p.length), i < j → v.contains p[j] = false) : par v p = (t3 p[i], true) := by
  have h1 := lastHit_at (hitL v p) i (by rw [hit_len]; exact hi) (by rw [hit_at v p i hi]; exact h) fun j hj hij => by
    rw [hit_len] at hj
    rw [hit_at v p j hj]
    exact hn j hj hij
  rw [hit_at v p i hi] at h1
  exact h1

theorem l13 (n : Node) (v : List Id) (hn : n.path.length < 2 ^ 62) (hv : v.length < 2 ^ 62) : ∀ (i fuel : Nat), i ≤ n.path.length → i < fuel → (∀ (j : Nat) (hj : j < n.path.length), i ≤ j → v.contains n.path[j] = false) →
    g13L0 fuel (idCells v) n.id.core n.id.op n.id.part (idCells n.path) n.cap.kind n.cap.base n.cap.bits n.cap.rights n.cap.width n.cap.level n.cap.device 0 0 0 ((i : Int) - 1) = some ((par v n.path).1.1, (par v n.path).1.2.1, (par v n.path).1.2.2, (par v n.path).2) := by
  intro i
  induction i with
  | zero =>
    intro fuel h hf hp
    obtain ⟨f, rfl⟩ : ∃ f, fuel = f + 1 := ⟨fuel - 1, by omega⟩
    rw [g13L0_eq, if_neg (by simp only [CQ]; omega), par_none v n.path fun j hj => hp j hj (by omega)]
  | succ i ih =>
    intro fuel h hf hp
    obtain ⟨f, rfl⟩ : ∃ f, fuel = f + 1 := ⟨fuel - 1, by omega⟩
    have e : (((i + 1 : Nat) : Int) - 1) = (i : Int) := by omega
    have hat : n.path[(i : Int).toNat]? = some n.path[i] := by simp
    rw [g13L0_eq, e, if_pos (by simp only [CQ]; omega), elem_id _ (by omega) hat]
    dsimp only
    rw [s10 v hv, Option.bind_some]
    by_cases hc : v.contains n.path[i] = true
    · rw [if_pos hc, elem_id _ (by omega) hat, par_at v n.path i (by omega) hc fun j hj hij => hp j hj (by omega)]
      rfl
    · rw [if_neg hc]
      have a4 : iop .sub .i64 (i : Int) 1 = (i : Int) - 1 := by rw [sub_i (by omega) (by omega)]
      rw [a4]
      refine ih f (by omega) (by omega) fun j hj hij => ?_
      by_cases hji : j = i
      · subst hji; simpa using hc
      · exact hp j hj (by omega)

theorem s13 (n : Node) (v : List Id) (hn : n.path.length < 2 ^ 62) (hv : v.length < 2 ^ 62) : g13 n.id.core n.id.op n.id.part (idCells n.path) n.cap.kind n.cap.base n.cap.bits n.cap.rights n.cap.width n.cap.level n.cap.device (idCells v) = some ((par v n.path).1.1, (par v n.path).1.2.1, (par v n.path).1.2.2, (par v n.path).2) := by
  rw [g13_eq, ids_len]
  have a4 : iop .sub .i64 (n.path.length : Int) 1 = (n.path.length : Int) - 1 := by rw [sub_i (by omega) (by omega)]
  rw [a4]
  exact l13 n v hn hv n.path.length FUEL (Nat.le_refl _) (fuel_lt (by omega)) fun j hj hij => by omega

theorem l31 {l m : List Id} (hl : l.length < 2 ^ 62) (hm : l.length = m.length) : ∀ (j i fuel : Nat), l.length = i + j → j < fuel → g31L0 fuel (idCells l) (idCells m) (l.length : Int) i = some (decide (l.drop i = m.drop i)) := by
  intro j
  induction j with
  | zero =>
    intro i fuel h hf
    obtain ⟨f, rfl⟩ : ∃ f, fuel = f + 1 := ⟨fuel - 1, by omega⟩
    rw [g31L0_eq, if_neg (by simp only [CQ]; omega), List.drop_of_length_le (by omega), List.drop_of_length_le (by omega)]
    rfl
  | succ j ih =>
    intro i fuel h hf
    obtain ⟨f, rfl⟩ : ∃ f, fuel = f + 1 := ⟨fuel - 1, by omega⟩
    have hi : i < l.length := by omega
    have hi' : i < m.length := by omega
    have hat : l[(i : Int).toNat]? = some l[i] := by simp
    have hat' : m[(i : Int).toNat]? = some m[i] := by simp
    have a4 : iop .add .i64 i 1 = ((i + 1 : Nat) : Int) := by rw [add_i (by omega) (by omega)]; omega
    rw [g31L0_eq, if_pos (by simp only [CQ]; omega), elem_id _ (by omega) hat, elem_id _ (by omega) hat', List.drop_eq_getElem_cons hi, List.drop_eq_getElem_cons hi', a4]
    by_cases he : l[i] = m[i]
    · rw [if_neg (by rw [Bool.not_eq_true', ← Bool.not_eq_true, id_eqb]; exact fun h => h he), ih (i + 1) f (by omega) (by omega)]
      simp only [he, List.cons.injEq, true_and]
    · rw [if_pos (by rw [Bool.not_eq_true', ← Bool.not_eq_true, id_eqb]; exact he)]
      simp only [List.cons.injEq, he, false_and, decide_false]

theorem s31 (l m : List Id) (hl : l.length < 2 ^ 62) (hm : m.length < 2 ^ 62) : g31 (idCells l) (idCells m) = some (decide (l = m)) := by
  rw [g31_eq, ids_len, ids_len]
  by_cases h : l.length = m.length
  · rw [if_neg (by simp only [CQ]; omega)]
    have := l31 hl h l.length 0 FUEL (by omega) (fuel_lt (by omega))
    rw [List.drop_zero, List.drop_zero] at this
    exact this
  · rw [if_pos (by simp only [CQ]; omega)]
    have : ¬ l = m := fun he => h (by rw [he])
    simp [this]

/-- Whether two nodes are the same, as both functions reckon it. -/
theorem same20 (a b : Node) (ha : a.path.length < 2 ^ 62) (hb : b.path.length < 2 ^ 62) : ∃ r, g20 a.id.core a.id.op a.id.part (idCells a.path) a.cap.kind a.cap.base a.cap.bits a.cap.rights a.cap.width a.cap.level a.cap.device b.id.core b.id.op b.id.part (idCells b.path) b.cap.kind b.cap.base b.cap.bits b.cap.rights b.cap.width b.cap.level b.cap.device = some r ∧ g21 a.id.core a.id.op a.id.part (idCells a.path) a.cap.kind a.cap.base a.cap.bits a.cap.rights a.cap.width a.cap.level a.cap.device b.id.core b.id.op b.id.part (idCells b.path) b.cap.kind b.cap.base b.cap.bits b.cap.rights b.cap.width b.cap.level b.cap.device = some r := by
  rw [g20_eq, g21_eq, s31 _ _ ha hb, s32 _ _ ha hb]
  split
  · split
    · exact ⟨_, rfl, rfl⟩
    · exact ⟨_, rfl, rfl⟩
  · exact ⟨_, rfl, rfl⟩

theorem s4 (a b : Node) (x y : Id) (v : List Id) : g4 a.id.core a.id.op a.id.part (idCells a.path) a.cap.kind a.cap.base a.cap.bits a.cap.rights a.cap.width a.cap.level a.cap.device b.id.core b.id.op b.id.part (idCells b.path) b.cap.kind b.cap.base b.cap.bits b.cap.rights b.cap.width b.cap.level b.cap.device x.core x.op x.part y.core y.op y.part (idCells v) = some true := by
  rw [g4_eq, ids_len, ids_len, ids_len]
  refine ite_goal (fun _ => by rw [s5]; rfl) fun h1 => ite_goal (fun _ => by rw [s5]; rfl) fun h2 => ite_goal (fun _ => by rw [s5]; rfl) fun h3 => ?_
  simp only [CQ] at h1 h2 h3
  have ha : a.path.length < 2 ^ 62 := by omega
  have hb : b.path.length < 2 ^ 62 := by omega
  have hv : v.length < 2 ^ 62 := by omega
  rw [s11 a (by omega), s11 b (by omega), s12 v (by omega)]
  simp only [Option.bind_some]
  rw [s9 a v ha hv, s13 a v ha hv, s14, s15]
  simp only [Option.bind_some]
  refine (if_pos (by simp)).trans ?_
  rw [s16 a ha, s17 a ha]
  simp only [Option.bind_some]
  refine (if_pos (by simp)).trans ?_
  rw [s18, s19]
  simp only [Option.bind_some]
  refine (if_pos (by simp)).trans ?_
  obtain ⟨r, h20, h21⟩ := same20 a b ha hb
  rw [h20, h21]
  simp only [Option.bind_some]
  refine (if_pos (by simp)).trans ?_
  rw [s22 a ha, s10 a.path ha]
  simp only [Option.bind_some]
  refine (if_pos (by simp)).trans ?_
  refine (if_pos (by rw [id_eqb])).trans ?_
  refine (if_pos (by simp)).trans ?_
  rw [s5]
  rfl

/-- The last place so far, as the law's loop keeps it. -/
def Last (v p : List Id) (i : Nat) (z : Int) : Prop := (z = -1 ∧ ∀ (j : Nat) (hj : j < p.length), j < i → v.contains p[j] = false) ∨
  ∃ (m : Nat) (hm : m < p.length), z = (m : Int) ∧ m < i ∧ v.contains p[m] = true ∧ ∀ (j : Nat) (hj : j < p.length), m < j → j < i → v.contains p[j] = false

theorem l3 (n : Node) (v : List Id) (hn : n.path.length < 2 ^ 62) (hv : v.length < 2 ^ 62) : ∀ (j i fuel : Nat) (z : Int), n.path.length = i + j → j < fuel → Last v n.path i z →
    g3L0 fuel n.id.core n.id.op n.id.part (idCells n.path) n.cap.kind n.cap.base n.cap.bits n.cap.rights n.cap.width n.cap.level n.cap.device (idCells v) (par v n.path).1.1 (par v n.path).1.2.1 (par v n.path).1.2.2 (par v n.path).2 z (i : Int) = some true := by
  intro j
  induction j with
  | zero =>
    intro i fuel z h hf hz
    obtain ⟨f, rfl⟩ : ∃ f, fuel = f + 1 := ⟨fuel - 1, by omega⟩
    rw [g3L0_eq, ids_len, if_neg (by simp only [CQ]; omega)]
    rcases hz with ⟨rfl, hz⟩ | ⟨m, hm, rfl, hmi, hc, hz⟩
    · rw [par_none v n.path fun j hj => hz j hj (by omega)]
      refine (if_pos (by decide)).trans ?_
      refine (if_pos (by decide)).trans ?_
      refine (if_pos (by decide)).trans ?_
      rw [s5]; rfl
    · rw [par_at v n.path m hm hc fun j hj hij => hz j hj hij (by omega)]
      have hat : n.path[(m : Int).toNat]? = some n.path[m] := by simp
      refine (if_neg (by simp only [CQ]; omega)).trans ?_
      refine (if_pos rfl).trans ?_
      rw [elem_id _ (by omega) hat]
      refine (if_pos (by rw [id_eqb]; rfl)).trans ?_
      rw [s5]; rfl
  | succ j ih =>
    intro i fuel z h hf hz
    obtain ⟨f, rfl⟩ : ∃ f, fuel = f + 1 := ⟨fuel - 1, by omega⟩
    have hi : i < n.path.length := by omega
    have hat : n.path[(i : Int).toNat]? = some n.path[i] := by simp
    have a4 : iop .add .i64 i 1 = ((i + 1 : Nat) : Int) := by rw [add_i (by omega) (by omega)]; omega
    rw [g3L0_eq, ids_len, if_pos (by simp only [CQ]; omega), elem_id _ (by omega) hat]
    dsimp only
    rw [s10 v hv, Option.bind_some, a4]
    by_cases hc : v.contains n.path[i] = true
    · rw [if_pos hc]
      exact ih (i + 1) f _ (by omega) (by omega) (.inr ⟨i, hi, rfl, by omega, hc, fun j hj h1 h2 => by omega⟩)
    · rw [if_neg hc]
      refine ih (i + 1) f _ (by omega) (by omega) ?_
      rcases hz with ⟨rfl, hz⟩ | ⟨m, hm, rfl, hmi, hcm, hz⟩
      · refine .inl ⟨rfl, fun j hj hji => ?_⟩
        by_cases hij : j = i
        · subst hij; simpa using hc
        · exact hz j hj (by omega)
      · refine .inr ⟨m, hm, rfl, by omega, hcm, fun j hj h1 hji => ?_⟩
        by_cases hij : j = i
        · subst hij; simpa using hc
        · exact hz j hj h1 (by omega)

theorem s4t (a b c : Int) (p : List Id) (k bs s r w l : Int) (d : Bool) (a' b' c' : Int) (p' : List Id) (k' bs' s' r' w' l' : Int) (d' : Bool) (x1 x2 x3 y1 y2 y3 : Int) (v : List Id) :
    g4 a b c (idCells p) k bs s r w l d a' b' c' (idCells p') k' bs' s' r' w' l' d' x1 x2 x3 y1 y2 y3 (idCells v) = some true :=
  s4 ⟨⟨a, b, c⟩, p, ⟨k, bs, s, r, w, l, d⟩⟩ ⟨⟨a', b', c'⟩, p', ⟨k', bs', s', r', w', l', d'⟩⟩ ⟨x1, x2, x3⟩ ⟨y1, y2, y3⟩ v

theorem s3 (a b c : Int) (l k : List Int) : g3 a b c (intCells l) (intCells k) = some true := by
  have hil : ∀ l : List Int, (intCells l).length = l.length := fun l => by simp [intCells]
  rw [g3_eq, hil, hil]
  refine ite_goal (fun _ => by rw [s5]; rfl) fun h1 => ite_goal (fun _ => by rw [s5]; rfl) fun h2 => ?_
  simp only [CQ] at h1 h2
  have hpg : capOk page = true := by decide
  obtain ⟨n, hn, _, h6⟩ := s6 a b c l (by omega) page hpg
  obtain ⟨m, h8, hm⟩ := s8 k (by omega)
  rw [s7]
  simp only [Option.bind_some]
  rw [h6]
  simp only [Option.bind_some]
  rw [h8]
  simp only [Option.bind_some]
  have hpl : n.path.length ≤ 8 := by
    simp only [nodeOk, Bool.and_eq_true, decide_eq_true_eq] at hn
    exact hn.1.2
  have hm8 := hm.2.2
  rw [s9 n m (by omega) (by omega)]
  simp only [Option.bind_some]
  exact l3 n m (by omega) (by omega) n.path.length 0 FUEL (-1) (by omega) (fuel_lt (by omega)) (.inl ⟨rfl, fun j hj h => by omega⟩)

end Go.Proofs.Ytghkcniaialgnaa
end
