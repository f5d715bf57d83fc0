/- End18, Q11a, Q11b, Q12a, Q12d, L18a, L18b, L18c, L18d, L18w, L18e, L18f, L18g, L18h, L18i: texts of the proof, put together. -/
import Derived.Test.YtceopohbfkamiaaGreatRows
import Derived.Test.YtceopohbfkamiaaGreatChecked
import Derived.Test.YtceopohbfkamiaaGreatM4
import Derived.JoinedOf
import Derived.JoinedAt
import Derived.RowKit3
import Derived.KernelRfl
import Derived.Test.YtceopohbfkamiaaGreatF18a
import Derived.Test.YtceopohbfkamiaaGreatF18c
import Derived.Test.YtceopohbfkamiaaGreatF18b

section
namespace Go.Proofs.YtceopohbfkamiaaGreat
open Go Go.AM
set_option maxRecDepth 100000

theorem behind : ∃ ws, behindMainWord (wordsSigns Tryz.prog.initOrder.toList) = "cut".toList :: ws := by
  have h : Tryz.prog.initOrder.toList = _ := String.toList_ofList (l := _)
  rw [h]
  exact behind_words (by kernel_rfl) (by kernel_rfl) (by kernel_rfl) (by kernel_rfl) (by kernel_rfl) (by kernel_rfl)

theorem enters : Tryz.prog.mayEnter = true := behind.elim fun _ h => enters_of h (by kernel_rfl) (by kernel_rfl) (by kernel_rfl)
theorem lifts : Tryz.prog.liftsFinal = false := behind.elim fun _ h => final_of h
theorem makeIs : Tryz.prog.make = some .cut := behind.elim fun _ h => make_of h
theorem laid : laidOutB Tryz.prog = true := by kernel_rfl
theorem ownKnobOk : ownKnob Tryz.prog.godebug = none := by kernel_rfl

theorem ty_int {d : Nat} {cs : List AV} (h : TyR Tryz.prog (d + 1) 3 cs) : ∃ z, cs = [I z] := by
  simp only [TyR, Tryz.underlying3] at h
  obtain ⟨z, h, _⟩ := h
  exact ⟨z, h⟩

theorem ty_bool {d : Nat} {cs : List AV} (h : TyR Tryz.prog (d + 1) 4 cs) : ∃ z, cs = [B z] := by
  simp only [TyR, Tryz.underlying4] at h
  exact h

theorem ty_cap {d : Nat} {cs : List AV} (h : TyR Tryz.prog (d + 2) 29 cs) : ∃ k b s r w l dv, cs = [I k, I b, I s, I r, I w, I l, B dv] := by
  rw [TyR] at h
  simp only [Tryz.underlying29] at h
  obtain ⟨ps, rfl, hl, hp⟩ := h
  obtain ⟨p0, p1, p2, p3, p4, p5, p6, rfl⟩ : ∃ p0 p1 p2 p3 p4 p5 p6, ps = [p0, p1, p2, p3, p4, p5, p6] := by
    match ps, hl with
    | [p0, p1, p2, p3, p4, p5, p6], _ => exact ⟨p0, p1, p2, p3, p4, p5, p6, rfl⟩
  obtain ⟨k, rfl⟩ := ty_int (hp 0 _ _ rfl rfl)
  obtain ⟨b, rfl⟩ := ty_int (hp 1 _ _ rfl rfl)
  obtain ⟨s, rfl⟩ := ty_int (hp 2 _ _ rfl rfl)
  obtain ⟨r, rfl⟩ := ty_int (hp 3 _ _ rfl rfl)
  obtain ⟨w, rfl⟩ := ty_int (hp 4 _ _ rfl rfl)
  obtain ⟨l, rfl⟩ := ty_int (hp 5 _ _ rfl rfl)
  obtain ⟨dv, rfl⟩ := ty_bool (hp 6 _ _ rfl rfl)
  exact ⟨k, b, s, r, w, l, dv, rfl⟩

theorem arg_int {x : AV} (h : ArgTy Tryz.prog 12 3 x) : ∃ z, x = I z := by
  simp only [ArgTy, Tryz.underlying3] at h
  obtain ⟨z, hz⟩ := ty_int h.2
  exact ⟨z, by simpa using hz⟩

theorem arg_cap {x : AV} (h : ArgTy Tryz.prog 12 29 x) : ∃ k b s r w l d, x = .agg [I k, I b, I s, I r, I w, I l, B d] := by
  simp only [ArgTy, Tryz.underlying29] at h
  obtain ⟨cs, rfl, h⟩ := h
  obtain ⟨k, b, s, r, w, l, d, rfl⟩ := ty_cap h
  exact ⟨k, b, s, r, w, l, d, rfl⟩

/-! lists as arguments -/
def u8c (z : Int) : List AV := [AV.val (.int .u8 z)]
def byteCells (l : List Int) : List (List AV) := l.map u8c
def Bytes (l : List Int) : Prop := ∀ z ∈ l, 0 ≤ z ∧ z ≤ 255
def i64c (z : Int) : List AV := [I z]
def intCells (l : List Int) : List (List AV) := l.map i64c

structure Id where
  core : Int
  op : Int
  part : Int
  deriving DecidableEq

def idc (i : Id) : List AV := [I i.core, I i.op, I i.part]
def idCells (l : List Id) : List (List AV) := l.map idc

theorem list_lift {α β : Type} {f : α → β} {p : α → Prop} : ∀ (xs : List β), (∀ x ∈ xs, ∃ a, x = f a ∧ p a) → ∃ l : List α, xs = l.map f ∧ ∀ a ∈ l, p a
  | [], _ => ⟨[], rfl, by simp⟩
  | x :: xs, h => by
    obtain ⟨a, h1, h2⟩ := h x (by simp)
    obtain ⟨l, h3, h4⟩ := list_lift xs fun y hy => h y (by simp [hy])
    refine ⟨a :: l, by rw [h1, h3]; rfl, fun b hb => ?_⟩
    rcases List.mem_cons.1 hb with rfl | hb
    · exact h2
    · exact h4 b hb

theorem cells5 : Tryz.prog.cellsOf 5 = 1 := by kernel_rfl
theorem cells3 : Tryz.prog.cellsOf 3 = 1 := by kernel_rfl
theorem cells23 : Tryz.prog.cellsOf 23 = 3 := by kernel_rfl

theorem lit8 {z : Int} (h : (Lit.int .u8 z).wf = true) : 0 ≤ z ∧ z ≤ 255 := by
  have h1 : IntKind.u8.min = 0 := by decide
  have h2 : IntKind.u8.max = 255 := by decide
  simp [Lit.wf, h1, h2] at h
  omega

theorem arg_bytes {x : AV} (h : ArgTy Tryz.prog 12 52 x) : ∃ l, x = .slice false 1 (byteCells l) ∧ l.length ≤ maxLen ∧ Bytes l := by
  simp only [ArgTy, Tryz.underlying52] at h
  have hh := h.2
  rw [TyR] at hh
  simp only [Tryz.underlying52, cells5] at hh
  obtain ⟨xs, h1, h2, h3⟩ := hh
  obtain ⟨l, rfl, h5⟩ := list_lift (f := u8c) (p := fun z => 0 ≤ z ∧ z ≤ 255) xs fun y hy => by
    have := h3 y hy
    rw [TyR] at this
    simp only [Tryz.underlying5] at this
    obtain ⟨z, rfl, hz⟩ := this
    exact ⟨z, rfl, lit8 hz⟩
  exact ⟨l, by simpa [byteCells] using h1, by simpa using h2, h5⟩

theorem arg_ints {x : AV} (h : ArgTy Tryz.prog 12 35 x) : ∃ l, x = .slice false 1 (intCells l) ∧ l.length ≤ maxLen := by
  simp only [ArgTy, Tryz.underlying35] at h
  have hh := h.2
  rw [TyR] at hh
  simp only [Tryz.underlying35, cells3] at hh
  obtain ⟨xs, h1, h2, h3⟩ := hh
  obtain ⟨l, rfl, h5⟩ := list_lift (f := i64c) (p := fun _ => True) xs fun y hy => by
    have := h3 y hy
    rw [TyR] at this
    simp only [Tryz.underlying3] at this
    obtain ⟨z, rfl, hz⟩ := this
    exact ⟨z, rfl, trivial⟩
  exact ⟨l, by simpa [intCells] using h1, by simpa using h2⟩

theorem ty_id {d : Nat} {cs : List AV} (h : TyR Tryz.prog (d + 2) 23 cs) : ∃ i : Id, cs = idc i := by
  rw [TyR] at h
  simp only [Tryz.underlying23] at h
  obtain ⟨ps, rfl, hl, hp⟩ := h
  obtain ⟨p0, p1, p2, rfl⟩ : ∃ p0 p1 p2, ps = [p0, p1, p2] := by
    match ps, hl with
    | [p0, p1, p2], _ => exact ⟨p0, p1, p2, rfl⟩
  obtain ⟨k, rfl⟩ := ty_int (hp 0 _ _ rfl rfl)
  obtain ⟨b, rfl⟩ := ty_int (hp 1 _ _ rfl rfl)
  obtain ⟨s, rfl⟩ := ty_int (hp 2 _ _ rfl rfl)
  exact ⟨⟨k, b, s⟩, rfl⟩

theorem ty_ids {d : Nat} {cs : List AV} (h : TyR Tryz.prog (d + 3) 27 cs) : ∃ l, cs = [.slice false 3 (idCells l)] ∧ l.length ≤ maxLen := by
  rw [TyR] at h
  simp only [Tryz.underlying27, cells23] at h
  obtain ⟨xs, h1, h2, h3⟩ := h
  obtain ⟨l, rfl, h5⟩ := list_lift (f := idc) (p := fun _ => True) xs fun y hy => by
    obtain ⟨i, hi⟩ := ty_id (h3 y hy)
    exact ⟨i, hi, trivial⟩
  exact ⟨l, h1, by simpa using h2⟩

theorem arg_id {x : AV} (h : ArgTy Tryz.prog 12 23 x) : ∃ a b c, x = .agg [I a, I b, I c] := by
  simp only [ArgTy, Tryz.underlying23] at h
  obtain ⟨cs, rfl, h⟩ := h
  obtain ⟨i, rfl⟩ := ty_id h
  exact ⟨i.core, i.op, i.part, rfl⟩

theorem arg_ids {x : AV} (h : ArgTy Tryz.prog 12 27 x) : ∃ l, x = .slice false 3 (idCells l) ∧ l.length ≤ maxLen := by
  simp only [ArgTy, Tryz.underlying27] at h
  obtain ⟨l, h1, h2⟩ := ty_ids h.2
  exact ⟨l, by simpa using h1, h2⟩

theorem arg_node {x : AV} (h : ArgTy Tryz.prog 12 31 x) : ∃ a b c p k bs s r w l d, x = .agg [I a, I b, I c, .slice false 3 (idCells p), I k, I bs, I s, I r, I w, I l, B d] ∧ p.length ≤ maxLen := by
  simp only [ArgTy, Tryz.underlying31] at h
  obtain ⟨cs, rfl, h⟩ := h
  rw [TyR] at h
  simp only [Tryz.underlying31] at h
  obtain ⟨ps, rfl, hl, hp⟩ := h
  obtain ⟨p0, p1, p2, rfl⟩ : ∃ p0 p1 p2, ps = [p0, p1, p2] := by
    match ps, hl with
    | [p0, p1, p2], _ => exact ⟨p0, p1, p2, rfl⟩
  obtain ⟨i, rfl⟩ := ty_id (hp 0 _ _ rfl rfl)
  obtain ⟨l, rfl, hl2⟩ := ty_ids (hp 1 _ _ rfl rfl)
  obtain ⟨k, b, s, r, w, lv, dv, rfl⟩ := ty_cap (hp 2 _ _ rfl rfl)
  exact ⟨i.core, i.op, i.part, l, k, b, s, r, w, lv, dv, rfl, hl2⟩

def parTs : List TypeId := [33, 45, 49]

theorem parOk (t : TypeId) (h : parTs.contains t = true) : fineB Tryz.prog 12 t = true ∧ t < Tryz.prog.types.size ∧ Tryz.prog.readableRec t = true := by
  have h2 : parTs.all (fun t => fineB Tryz.prog 12 t && decide (t < Tryz.prog.types.size) && Tryz.prog.readableRec t) = true := by kernel_rfl
  rw [List.all_eq_true] at h2
  have := h2 t (by simpa using h)
  simpa [and_assoc] using this

end Go.Proofs.YtceopohbfkamiaaGreat
end

section
namespace Go.Proofs.YtceopohbfkamiaaGreat
open Go Go.AM
set_option linter.unusedSimpArgs false
set_option linter.unusedVariables false
set_option maxRecDepth 100000

/-- captype.sizeAllowed -/
def sizeOk (k b : Int) : Bool := decide ((k = 1 ∧ 6 ≤ b ∧ b ≤ 40) ∨ (k = 2 ∧ 12 ≤ b ∧ b ≤ 40) ∨ (k = 3 ∧ b = 12) ∨ (k = 4 ∧ b = 6) ∨ (k = 5 ∧ b = 10) ∨ (k = 6 ∧ b = 16))

theorem s159 (k b : Int) : g159 k b = some (sizeOk k b) := by
  rw [g159_eq]
  repeat' split
  all_goals (refine congrArg some ?_; rw [bool_iff]; simp only [sizeOk, CQ] at *; omega)

/-- multikernelref10.fixed -/
def fixedOf (k : Int) : Int := if k = 3 then 12 else if k = 4 then 6 else if k = 5 then 10 else if k = 6 then 16 else 0

theorem s176 (k : Int) : g176 k = some (fixedOf k) := by
  rw [g176_eq]
  simp only [CQ, fixedOf]
  repeat' split
  all_goals first | rfl | omega

theorem s155 (k b : Int) : g155 k b = some (sizeOk k b) := by
  rw [g155_eq]
  simp only [s176, Option.bind_some]
  repeat' split
  all_goals (refine congrArg some ?_; rw [bool_iff]; simp only [sizeOk, CQ] at *; first | omega | (rcases (by omega : k = 3 ∨ k = 4 ∨ k = 5 ∨ k = 6) with rfl | rfl | rfl | rfl <;> simp [fixedOf]))

/-- captype.formatAllowed -/
def formOk (w l : Int) : Bool := decide ((w = 32 ∧ 0 ≤ l ∧ l ≤ 1) ∨ (w = 39 ∧ 0 ≤ l ∧ l ≤ 2))

theorem s162 (w l : Int) : g162 w l = some (formOk w l) := by
  rw [g162_eq]
  repeat' split
  all_goals (refine congrArg some ?_; rw [bool_iff]; simp only [formOk, CQ] at *; omega)

theorem s158 (w l : Int) : g158 w l = some (formOk w l) := by
  rw [g158_eq]
  repeat' split
  all_goals (refine congrArg some ?_; rw [bool_iff]; simp only [formOk, CQ] at *; omega)

/-- memrange.Valid -/
def rngOk (a b : Int) : Bool := decide (6 ≤ b ∧ b ≤ 40 ∧ 0 ≤ a ∧ a % 2 ^ b.toNat = 0 ∧ a + 2 ^ b.toNat ≤ 1099511627776)

theorem pow_hi {b : Int} (h : b ≤ 40) : (2 : Int) ^ b.toNat ≤ 1099511627776 := by
  have := pow_le2 (m := b.toNat) (n := 40) (by omega)
  have e : (2 : Int) ^ 40 = 1099511627776 := by decide
  omega

theorem rem_pow {a : Int} {n : Nat} (h : 0 ≤ a) : iop .rem .i64 a (2 ^ n) = a % 2 ^ n := Int.tmod_eq_emod_of_nonneg h

theorem sub_hi {b : Int} (h : b ≤ 40) : iop .sub .i64 1099511627776 (2 ^ b.toNat) = 1099511627776 - 2 ^ b.toNat := by
  have := pow_hi h
  have := pow_pos2 b.toNat
  exact wrap_of (by omega) (by omega)

theorem s160 (a b : Int) : g160 a b = some (rngOk a b) := by
  have hp := pow_pos2 b.toNat
  rw [g160_eq]
  by_cases h1 : 6 ≤ b ∧ b ≤ 40 ∧ 0 ≤ a
  · obtain ⟨h1, h2, h3⟩ := h1
    have hs : iop .shl .i64 1 b = 2 ^ b.toNat := shl1 (by omega)
    have hr : reqK ((0 : Int) ≤ b) = fun (x : Option Bool) => x := funext fun x => reqK_pos (by omega) x
    have hn : reqK (((2 : Int) ^ b.toNat) ≠ 0) = fun (x : Option Bool) => x := funext fun x => reqK_pos (by omega) x
    simp only [hs, hr, hn, rem_pow h3, sub_hi h2]
    repeat' split
    all_goals (refine congrArg some ?_; rw [bool_iff]; simp only [rngOk, CQ] at *; omega)
  · have hf : rngOk a b = false := by simp only [rngOk, decide_eq_false_iff_not]; omega
    rw [hf]
    repeat' split
    all_goals first | rfl | (exfalso; simp only [CQ] at *; omega)

theorem s156 (a b : Int) : g156 a b = some (rngOk a b) := by
  have hp := pow_pos2 b.toNat
  rw [g156_eq]
  by_cases h1 : 6 ≤ b ∧ b ≤ 40 ∧ 0 ≤ a
  · obtain ⟨h1, h2, h3⟩ := h1
    have hw : IntKind.wrap .u64 b = b := wrapu_of (by omega) (by omega)
    have hs : iop .shl .i64 1 b = 2 ^ b.toNat := shl1 (by omega)
    have hr : reqK ((0 : Int) ≤ b) = fun (x : Option Bool) => x := funext fun x => reqK_pos (by omega) x
    have hn : reqK (((2 : Int) ^ b.toNat) ≠ 0) = fun (x : Option Bool) => x := funext fun x => reqK_pos (by omega) x
    have h40 := pow_hi h2
    simp only [hw, hs, hr, hn, rem_pow h3]
    repeat' split
    all_goals (refine congrArg some ?_; rw [bool_iff]; simp only [rngOk, CQ] at *; first | omega | (rw [add_i (by omega) (by omega)] at *; omega))
  · have hf : rngOk a b = false := by simp only [rngOk, decide_eq_false_iff_not]; omega
    rw [hf]
    repeat' split
    all_goals first | rfl | (exfalso; simp only [CQ] at *; omega)

/-- memrange.End -/
def rngEnd (a b : Int) : Int := if rngOk a b = true then a + 2 ^ b.toNat else 0

theorem rngOk_of {a b : Int} (h : rngOk a b = true) : 6 ≤ b ∧ b ≤ 40 ∧ 0 ≤ a ∧ a % 2 ^ b.toNat = 0 ∧ a + 2 ^ b.toNat ≤ 1099511627776 := by simpa [rngOk] using h

theorem end_val {a b : Int} (h : rngOk a b = true) : iop .add .i64 a (iop .shl .i64 1 b) = rngEnd a b := by
  obtain ⟨h1, h2, h3, h4, h5⟩ := rngOk_of h
  have := pow_pos2 b.toNat
  rw [shl1 (by omega), add_i (by omega) (by omega), rngEnd, if_pos h]

/-- memrange.Overlaps -/
def overB (a b c d : Int) : Bool := rngOk a b && rngOk c d && decide (a < rngEnd c d) && decide (c < rngEnd a b)

/-- memrange.Contains -/
def inB (a b c d : Int) : Bool := rngOk a b && rngOk c d && decide (a ≤ c) && decide (rngEnd c d ≤ rngEnd a b)

structure Cap where
  kind : Int
  base : Int
  bits : Int
  rights : Int
  width : Int
  level : Int
  device : Bool

theorem s161 (k b s r w l : Int) (d : Bool) : g161 k b s r w l d = some (b, s) := g161_eq ..

theorem s157 (k b s r w l : Int) (d : Bool) : g157 k b s r w l d = some (b, s) := g157_eq ..

/-- captype.Valid -/
def capOk (c : Cap) : Bool := sizeOk c.kind c.bits && rngOk c.base c.bits && decide (0 ≤ c.rights ∧ c.rights ≤ 7) && (if c.kind = 3 then formOk c.width c.level else decide (c.width = 0 ∧ c.level = 0)) && (!c.device || decide (c.kind = 1) || decide (c.kind = 2))

theorem s109 (k b s r w l : Int) (d : Bool) : g109 k b s r w l d = some (capOk ⟨k, b, s, r, w, l, d⟩) := by
  rw [g109_eq]
  simp only [s159, s161, s160, s162, Option.bind_some]
  repeat' split
  all_goals (refine congrArg some ?_; rw [bool_iff]; simp only [capOk, CQ] at *; grind)

theorem s106 (k b s r w l : Int) (d : Bool) : g106 k b s r w l d = some (capOk ⟨k, b, s, r, w, l, d⟩) := by
  rw [g106_eq]
  simp only [s155, s157, s156, s158, Option.bind_some]
  repeat' split
  all_goals (refine congrArg some ?_; rw [bool_iff]; simp only [capOk, CQ] at *; grind)

/-- captype.SameObject -/
def sameB (a b : Cap) : Bool := decide (a.kind = b.kind) && decide (a.base = b.base) && decide (a.bits = b.bits) && decide (a.width = b.width) && decide (a.level = b.level) && decide (a.device = b.device)

/-- captype.Coexist -/
def coB (a b : Cap) : Bool := !overB a.base a.bits b.base b.bits || sameB a b || (decide (a.kind = 1) && inB a.base a.bits b.base b.bits) || (decide (b.kind = 1) && inB b.base b.bits a.base a.bits)

end Go.Proofs.YtceopohbfkamiaaGreat
end

section
namespace Go.Proofs.YtceopohbfkamiaaGreat
open Go Go.AM
set_option linter.unusedSimpArgs false
set_option linter.unusedVariables false
set_option maxRecDepth 100000

/-- The cells of the capabilities that Retype makes. -/
def newCell (obj a sz bits r w l : Int) (d : Bool) (j : Nat) : List AV := [I obj, I (a + j * sz), I bits, I r, I w, I l, B d]

def newCells (obj a sz bits r w l : Int) (d : Bool) (n : Nat) : List (List AV) := (List.range n).map (newCell obj a sz bits r w l d)

theorem newCells_succ (obj a sz bits r w l : Int) (d : Bool) (n : Nat) : newCells obj a sz bits r w l d (n + 1) = newCells obj a sz bits r w l d n ++ [newCell obj a sz bits r w l d n] := by
  simp [newCells, List.range_succ]

theorem newCells_len (obj a sz bits r w l : Int) (d : Bool) (n : Nat) : (newCells obj a sz bits r w l d n).length = n := by simp [newCells]

theorem newCells_at (obj a sz bits r w l : Int) (d : Bool) (n i : Nat) (h : i < n) : (newCells obj a sz bits r w l d n)[i]? = some (newCell obj a sz bits r w l d i) := by
  simp [newCells, h]

theorem fuel_lt {n : Nat} (h : n < 2 ^ 64) : n < FUEL := by
  have : FUEL = 1208925819614629174706176 := rfl
  omega

theorem room_ok {a b : List (List AV)} {k : Nat} (h : (a.length + b.length) * (k + 1) ≤ 1099511627776) : roomP a b k := h

theorem size_rng {k b : Int} (h : sizeOk k b = true) : 6 ≤ b ∧ b ≤ 40 := by
  simp only [sizeOk, decide_eq_true_eq] at h
  omega

theorem cap_rng {c : Cap} (h : capOk c = true) : rngOk c.base c.bits = true := by
  simp only [capOk, Bool.and_eq_true] at h
  exact h.1.1.1.2

/-- captype.Retype: the error -/
def retErr (c : Cap) (obj bits level width off cnt : Int) : Int :=
  if capOk c = false ∨ c.kind ≠ 1 then 5
  else if iop .and .i64 c.rights 2 = 0 then 8
  else if sizeOk obj bits = false ∨ (obj = 3 ∧ formOk width level = false) ∨ cnt < 1 ∨ 8 < cnt ∨ off < 0 then 1
  else if c.device = true ∧ obj ≠ 1 ∧ obj ≠ 2 then 5
  else if off % 2 ^ bits.toNat ≠ 0 ∨ 2 ^ c.bits.toNat - cnt * 2 ^ bits.toNat < off ∨ (obj = 1 ∧ c.bits ≤ bits) then 6
  else 0

/-- captype.Retype: the capabilities -/
def retCells (c : Cap) (obj bits level width off cnt : Int) : List (List AV) :=
  if retErr c obj bits level width off cnt = 0 then newCells obj (c.base + off) (2 ^ bits.toNat) bits c.rights (if obj = 3 then width else 0) (if obj = 3 then level else 0) c.device cnt.toNat else []

theorem ret_bad {c : Cap} {obj bits level width off cnt e : Int} (he : e ≠ 0) (h : retErr c obj bits level width off cnt = e) :
    some (([] : List (List AV)), e) = some (retCells c obj bits level width off cnt, retErr c obj bits level width off cnt) := by
  simp only [retCells, h, if_neg he]

/-- What the numbers come to where all is well. -/
theorem ret_nums {c : Cap} {obj bits off cnt : Int} (hc : capOk c = true) (hs : sizeOk obj bits = true) (h1 : 1 ≤ cnt) (h2 : cnt ≤ 8) (h3 : 0 ≤ off) :
    iop .shl .i64 1 bits = 2 ^ bits.toNat ∧ iop .rem .i64 off (2 ^ bits.toNat) = off % 2 ^ bits.toNat ∧ iop .shl .i64 1 c.bits = 2 ^ c.bits.toNat ∧ iop .mul .i64 cnt (2 ^ bits.toNat) = cnt * 2 ^ bits.toNat ∧
      iop .sub .i64 (2 ^ c.bits.toNat) (cnt * 2 ^ bits.toNat) = 2 ^ c.bits.toNat - cnt * 2 ^ bits.toNat ∧ (2 : Int) ^ bits.toNat ≠ 0 ∧ 0 ≤ bits ∧ 0 ≤ c.bits ∧ 0 ≤ c.base ∧ c.base + 2 ^ c.bits.toNat ≤ 1099511627776 ∧
      0 < (2 : Int) ^ bits.toNat ∧ (2 : Int) ^ bits.toNat ≤ 1099511627776 ∧ (2 : Int) ^ bits.toNat ≤ cnt * 2 ^ bits.toNat ∧ 0 < (2 : Int) ^ c.bits.toNat ∧ bits ≤ 40 ∧ c.bits ≤ 40 := by
  obtain ⟨b1, b2⟩ := size_rng hs
  obtain ⟨r1, r2, r3, r4, r5⟩ := rngOk_of (cap_rng hc)
  have p1 := pow_pos2 bits.toNat
  have p2 := pow_pos2 c.bits.toNat
  have q1 := pow_hi b2
  have q2 := pow_hi r2
  have m1 : cnt * 2 ^ bits.toNat ≤ 8 * 2 ^ bits.toNat := Int.mul_le_mul_of_nonneg_right (by omega) (by omega)
  have m2 : 1 * 2 ^ bits.toNat ≤ cnt * 2 ^ bits.toNat := Int.mul_le_mul_of_nonneg_right (by omega) (by omega)
  refine ⟨shl1 (by omega), rem_pow (by omega), shl1 (by omega), mul_i (by omega) (by omega), sub_i (by omega) (by omega), by omega, by omega, by omega, r3, r5, p1, q1, by omega, p2, b2, r2⟩

theorem reqK_id {γ : Type} {p : Prop} {_ : Decidable p} (h : p) : (reqK p : Option γ → Option γ) = fun x => x := funext fun x => reqK_pos h x

theorem fuel6 : ∃ f, FUEL = f + 1 + 1 + 1 + 1 + 1 + 1 := ⟨FUEL - 6, by decide⟩

end Go.Proofs.YtceopohbfkamiaaGreat
end

section
namespace Go.Proofs.YtceopohbfkamiaaGreat
open Go Go.AM
set_option linter.unusedSimpArgs false
set_option linter.unusedVariables false
set_option maxRecDepth 100000

abbrev idSh : List Sh := [.int .i64, .int .i64, .int .i64]

/-- node.ValidId -/
def idOk (i : Id) : Bool := decide (0 ≤ i.core ∧ i.core < 32 ∧ 1 ≤ i.op ∧ i.op ≤ 1073741824 ∧ 0 ≤ i.part ∧ i.part < 8)

theorem s91 (a b c : Int) : g91 a b c = some (idOk ⟨a, b, c⟩) := by
  rw [g91_eq]
  repeat' split
  all_goals (refine congrArg some ?_; rw [bool_iff]; simp only [idOk, CQ] at *; omega)

theorem s182 (a : Int) : g182 a = some false := by
  rw [g182_eq]
  simp [cop]

def cmpI (a b : Int) : Int := if a < b then -1 else if b < a then 1 else 0

theorem s178 (a b : Int) : g178 a b = some (cmpI a b) := by
  rw [g178_eq]
  simp only [s182, Option.bind_some, Bool.false_eq_true, if_false]
  by_cases h1 : a < b
  · rw [if_pos (by simp only [CQ]; omega), cmpI, if_pos h1]
  · by_cases h2 : b < a
    · rw [if_neg (by simp only [CQ]; omega), if_pos (by simp only [CQ]; omega), cmpI, if_neg h1, if_pos h2]
    · rw [if_neg (by simp only [CQ]; omega), if_neg (by simp only [CQ]; omega), cmpI, if_neg h1, if_neg h2]

def firstNZ (x y z : Int) : Int := if x ≠ 0 then x else if y ≠ 0 then y else z

theorem s177 (x y z : Int) : g177 (((([] : List (List AV)) ++ [[AV.val (.int .i64 x)]]) ++ [[AV.val (.int .i64 y)]]) ++ [[AV.val (.int .i64 z)]]) = some (firstNZ x y z) := by
  obtain ⟨f, hf⟩ := fuel6
  have e : (((([] : List (List AV)) ++ [[AV.val (.int .i64 x)]]) ++ [[AV.val (.int .i64 y)]]) ++ [[AV.val (.int .i64 z)]]) = [i64c x, i64c y, i64c z] := rfl
  have e1 : iop .add .i64 0 1 = 1 := by decide
  have e2 : iop .add .i64 1 1 = 2 := by decide
  have e3 : iop .add .i64 2 1 = 3 := by decide
  have hl : (([i64c x, i64c y, i64c z] : List (List AV)).length : Int) = 3 := rfl
  rw [g177_eq, e, hf, hl]
  rw [g177L0_eq, if_pos (by decide), elemK_at (sh := [.int .i64]) (cs := i64c x) (r := x) _ (by decide) rfl rfl]
  by_cases hx : x = 0
  · rw [if_neg (by simp only [CQ]; omega), e1, g177L0_eq, if_pos (by decide), elemK_at (sh := [.int .i64]) (cs := i64c y) (r := y) _ (by decide) rfl rfl]
    by_cases hy : y = 0
    · rw [if_neg (by simp only [CQ]; omega), e2, g177L0_eq, if_pos (by decide), elemK_at (sh := [.int .i64]) (cs := i64c z) (r := z) _ (by decide) rfl rfl]
      by_cases hz : z = 0
      · rw [if_neg (by simp only [CQ]; omega), e3, g177L0_eq, if_neg (by decide)]
        simp [firstNZ, hx, hy, hz]
      · rw [if_pos (by simp only [CQ]; omega)]
        simp [firstNZ, hx, hy]
    · rw [if_pos (by simp only [CQ]; omega)]
      simp [firstNZ, hx, hy]
  · rw [if_pos (by simp only [CQ]; omega)]
    simp [firstNZ, hx]

theorem s166 (a b c d e f : Int) : g166 a b c d e f = some (firstNZ (cmpI a d) (cmpI b e) (cmpI c f)) := by
  rw [g166_eq]
  simp only [s178, Option.bind_some, s177]

/-- node.Less -/
def idLt (a b c d e f : Int) : Bool := decide (a < d ∨ (a = d ∧ (b < e ∨ (b = e ∧ c < f))))

theorem s116 (a b c d e f : Int) : g116 a b c d e f = some (idLt a b c d e f) := by
  rw [g116_eq, s166, Option.bind_some]
  refine congrArg some ?_
  rw [bool_iff]
  simp only [idLt, CQ, cmpI, firstNZ]
  repeat' split
  all_goals omega

theorem ids_len (l : List Id) : (idCells l).length = l.length := by simp [idCells]

theorem ids_take (l : List Id) (n : Nat) : (idCells l).take n = idCells (l.take n) := by simp [idCells, List.map_take]

theorem ids_at {l : List Id} {i : Nat} {x : Id} (h : l[i]? = some x) : (idCells l)[i]? = some (idc x) := by simp [idCells, h]

theorem elem_id {γ : Type} {l : List Id} {i : Int} {x : Id} (k : (Int × Int × Int) → Option γ) (h0 : 0 ≤ i) (h : l[i.toNat]? = some x) : elemK (idCells l) i idSh k = k (x.core, x.op, x.part) :=
  elemK_at (sh := idSh) (r := (x.core, x.op, x.part)) k h0 (ids_at h) rfl

theorem id_eqb (a b c d e f : Int) : ((cop .eql a d && (cop .eql b e && (cop .eql c f && true))) = true) ↔ ((⟨a, b, c⟩ : Id) = ⟨d, e, f⟩) := by
  simp only [CQ, Id.mk.injEq, and_true]

theorem l163 {l : List Id} (hl : l.length < 2 ^ 63) (a b c : Int) : ∀ (j i fuel : Nat), l.length = i + j → j < fuel → ∃ r, g163L0 fuel (idCells l) a b c (l.length : Int) i = some r ∧ (0 ≤ r ↔ (⟨a, b, c⟩ : Id) ∈ l.drop i) := by
  intro j
  induction j with
  | zero =>
    intro i fuel h hf
    obtain ⟨f, rfl⟩ : ∃ f, fuel = f + 1 := ⟨fuel - 1, by omega⟩
    refine ⟨-1, by rw [g163L0_eq, if_neg (by simp only [CQ]; omega)], ?_⟩
    rw [List.drop_of_length_le (by omega)]
    simp
  | succ j ih =>
    intro i fuel h hf
    obtain ⟨f, rfl⟩ : ∃ f, fuel = f + 1 := ⟨fuel - 1, by omega⟩
    have hi : i < l.length := by omega
    have hat : l[(i : Int).toNat]? = some l[i] := by simp
    have a4 : iop .add .i64 i 1 = ((i + 1 : Nat) : Int) := by rw [add_i (by omega) (by omega)]; omega
    rw [g163L0_eq, if_pos (by simp only [CQ]; omega), elem_id _ (by omega) hat, a4, List.drop_eq_getElem_cons hi]
    by_cases he : (⟨a, b, c⟩ : Id) = l[i]
    · refine ⟨i, ?_, ?_⟩
      · rw [if_pos]
        rw [id_eqb]
        exact he
      · rw [List.mem_cons]
        exact ⟨fun _ => .inl he, fun _ => by omega⟩
    · obtain ⟨r, h1, h2⟩ := ih (i + 1) f (by omega) (by omega)
      refine ⟨r, ?_, ?_⟩
      · rw [if_neg, h1]
        rw [id_eqb]
        exact he
      · rw [h2, List.mem_cons]
        simp [he]

theorem s110 (l : List Id) (hl : l.length < 2 ^ 63) (a b c : Int) : g110 (idCells l) a b c = some (l.contains ⟨a, b, c⟩) := by
  obtain ⟨r, h1, h2⟩ := l163 hl a b c l.length 0 FUEL (by omega) (fuel_lt (by omega))
  rw [g110_eq, g163_eq, ids_len]
  have h1' : g163L0 FUEL (idCells l) a b c (l.length : Int) 0 = some r := h1
  rw [h1', Option.bind_some]
  refine congrArg some ?_
  rw [bool_iff]
  simp only [CQ, List.contains_iff_mem]
  rw [List.drop_zero] at h2
  exact h2

structure Node where
  id : Id
  path : List Id
  cap : Cap

def pathAt (n : Node) (i : Nat) : Bool := match n.path[i]? with | none => true | some x => idOk x && decide (x ≠ n.id) && !(n.path.take i).contains x

/-- node.Valid -/
def nodeOk (n : Node) : Bool := idOk n.id && capOk n.cap && decide (n.path.length ≤ 8) && (List.range n.path.length).all (pathAt n)

theorem l50 (n : Node) (hl : n.path.length < 2 ^ 63) : ∀ (j i fuel : Nat), n.path.length = i + j → j < fuel →
    g50L0 fuel n.id.core n.id.op n.id.part (idCells n.path) n.cap.kind n.cap.base n.cap.bits n.cap.rights n.cap.width n.cap.level n.cap.device (idCells n.path) (n.path.length : Int) i = some ((List.range' i j).all (pathAt n)) := by
  intro j
  induction j with
  | zero =>
    intro i fuel h hf
    obtain ⟨f, rfl⟩ : ∃ f, fuel = f + 1 := ⟨fuel - 1, by omega⟩
    rw [g50L0_eq, if_neg (by simp only [CQ]; omega)]
    rfl
  | succ j ih =>
    intro i fuel h hf
    obtain ⟨f, rfl⟩ : ∃ f, fuel = f + 1 := ⟨fuel - 1, by omega⟩
    have hi : i < n.path.length := by omega
    have hat : n.path[(i : Int).toNat]? = some n.path[i] := by simp
    have a4 : iop .add .i64 i 1 = ((i + 1 : Nat) : Int) := by rw [add_i (by omega) (by omega)]; omega
    have hp : pathAt n i = (idOk n.path[i] && decide (n.path[i] ≠ n.id) && !(n.path.take i).contains n.path[i]) := by
      unfold pathAt
      rw [List.getElem?_eq_getElem hi]
    have hlt : (n.path.take i).length < 2 ^ 63 := by rw [List.length_take]; omega
    rw [g50L0_eq, if_pos (by simp only [CQ]; omega), elem_id _ (by omega) hat, a4, List.range'_succ, List.all_cons, hp]
    simp only [s91, Option.bind_some]
    cases h1 : idOk n.path[i] with
    | false => simp
    | true =>
      rw [if_neg (by simp)]
      by_cases h2 : n.path[i] = n.id
      · rw [if_pos (by rw [id_eqb]; exact h2)]
        simp [h2]
      · rw [if_neg (by rw [id_eqb]; exact h2), reqK_pos (by omega), reqK_pos (by rw [ids_len]; omega), Int.toNat_natCast, ids_take, s110 _ hlt, Option.bind_some]
        cases h3 : (n.path.take i).contains n.path[i] with
        | true => simp
        | false =>
          rw [if_neg (by simp)]
          have := ih (i + 1) f (by omega) (by omega)
          rw [this]
          simp [h2]

theorem s50 (n : Node) (hl : n.path.length < 2 ^ 63) : g50 n.id.core n.id.op n.id.part (idCells n.path) n.cap.kind n.cap.base n.cap.bits n.cap.rights n.cap.width n.cap.level n.cap.device = some (nodeOk n) := by
  rw [g50_eq]
  simp only [s91, s109, Option.bind_some, ids_len]
  unfold nodeOk
  cases h1 : idOk n.id with
  | false => simp [show (⟨n.id.core, n.id.op, n.id.part⟩ : Id) = n.id from rfl, h1]
  | true =>
    cases h2 : capOk n.cap with
    | false => simp [show (⟨n.id.core, n.id.op, n.id.part⟩ : Id) = n.id from rfl, h1, show (⟨n.cap.kind, n.cap.base, n.cap.bits, n.cap.rights, n.cap.width, n.cap.level, n.cap.device⟩ : Cap) = n.cap from rfl, h2]
    | true =>
      rw [if_neg (by simp), if_neg (by simp)]
      by_cases h3 : n.path.length ≤ 8
      · rw [if_neg (by simp only [CQ]; omega)]
        have := l50 n hl n.path.length 0 FUEL (by omega) (fuel_lt (by omega))
        have e : (List.range' 0 n.path.length) = List.range n.path.length := (List.range_eq_range' ..).symm
        rw [e] at this
        refine this.trans ?_
        simp [h3]
      · rw [if_pos (by simp only [CQ]; omega)]
        simp [h3]

def childErr (n : Node) (i : Id) (c : Cap) : Int := if nodeOk n = false ∨ idOk i = false ∨ capOk c = false ∨ i = n.id ∨ n.path.contains i = true then 1 else if 8 ≤ n.path.length then 9 else 0

end Go.Proofs.YtceopohbfkamiaaGreat
end

section
namespace Go.Proofs.YtceopohbfkamiaaGreat
open Go Go.AM
set_option linter.unusedSimpArgs false
set_option linter.unusedVariables false
set_option maxRecDepth 100000

theorem s104 (a b c : Int) : g104 a b c = some (idOk ⟨a, b, c⟩) := by
  rw [g104_eq]
  repeat' split
  all_goals (refine congrArg some ?_; rw [bool_iff]; simp only [idOk, CQ] at *; omega)

theorem l107 {l : List Id} (hl : l.length < 2 ^ 63) (a b c : Int) : ∀ (j i fuel : Nat), l.length = i + j → j < fuel → g107L0 fuel (idCells l) a b c i = some ((l.drop i).contains ⟨a, b, c⟩) := by
  intro j
  induction j with
  | zero =>
    intro i fuel h hf
    obtain ⟨f, rfl⟩ : ∃ f, fuel = f + 1 := ⟨fuel - 1, by omega⟩
    rw [g107L0_eq, if_neg (by simp only [CQ, ids_len]; omega), List.drop_of_length_le (by omega)]
    rfl
  | succ j ih =>
    intro i fuel h hf
    obtain ⟨f, rfl⟩ : ∃ f, fuel = f + 1 := ⟨fuel - 1, by omega⟩
    have hi : i < l.length := by omega
    have hat : l[(i : Int).toNat]? = some l[i] := by simp
    have a4 : iop .add .i64 i 1 = ((i + 1 : Nat) : Int) := by rw [add_i (by omega) (by omega)]; omega
    rw [g107L0_eq, if_pos (by simp only [CQ, ids_len]; omega), elem_id _ (by omega) hat, a4, List.drop_eq_getElem_cons hi, List.contains_cons]
    by_cases he : l[i] = (⟨a, b, c⟩ : Id)
    · rw [if_pos (by rw [id_eqb]; exact he)]
      simp [he]
    · rw [if_neg (by rw [id_eqb]; exact he), ih (i + 1) f (by omega) (by omega)]
      have : ((⟨a, b, c⟩ : Id) == l[i]) = false := by simp; exact fun h => he h.symm
      rw [this, Bool.false_or]

theorem s107 (l : List Id) (hl : l.length < 2 ^ 63) (a b c : Int) : g107 (idCells l) a b c = some (l.contains ⟨a, b, c⟩) := by
  have := l107 hl a b c l.length 0 FUEL (by omega) (fuel_lt (by omega))
  rw [g107_eq]
  exact this

def pathRef (n : Node) (i : Nat) : Bool := match n.path[i]? with | none => true | some x => idOk x && !(n.path.take i).contains x

theorem nodeOk_ref (n : Node) : nodeOk n = (idOk n.id && capOk n.cap && decide (n.path.length ≤ 8) && (!n.path.contains n.id && (List.range n.path.length).all (pathRef n))) := by
  unfold nodeOk
  congr 1
  rw [bool_iff]
  simp only [Bool.and_eq_true, List.all_eq_true, List.mem_range, Bool.not_eq_true', ← Bool.not_eq_true, List.contains_iff_mem]
  constructor
  · intro h
    refine ⟨fun hc => ?_, fun i hi => ?_⟩
    · obtain ⟨i, hi⟩ := List.mem_iff_getElem?.1 hc
      have := h i (List.getElem?_eq_some_iff.1 hi).1
      unfold pathAt at this
      rw [hi] at this
      simp at this
    · have := h i hi
      unfold pathAt at this
      unfold pathRef
      rw [List.getElem?_eq_getElem hi] at this ⊢
      simp only [Bool.and_eq_true] at this ⊢
      exact ⟨this.1.1, this.2⟩
  · intro ⟨h1, h2⟩ i hi
    have := h2 i hi
    unfold pathRef at this
    unfold pathAt
    rw [List.getElem?_eq_getElem hi] at this ⊢
    simp only [Bool.and_eq_true, decide_eq_true_eq] at this ⊢
    exact ⟨⟨this.1, fun he => h1 (he ▸ List.getElem_mem hi)⟩, this.2⟩

theorem l45 (n : Node) (hl : n.path.length < 2 ^ 63) : ∀ (j i fuel : Nat), n.path.length = i + j → j < fuel →
    g45L0 fuel n.id.core n.id.op n.id.part (idCells n.path) n.cap.kind n.cap.base n.cap.bits n.cap.rights n.cap.width n.cap.level n.cap.device i = some ((List.range' i j).all (pathRef n)) := by
  intro j
  induction j with
  | zero =>
    intro i fuel h hf
    obtain ⟨f, rfl⟩ : ∃ f, fuel = f + 1 := ⟨fuel - 1, by omega⟩
    rw [g45L0_eq, if_neg (by simp only [CQ, ids_len]; omega)]
    rfl
  | succ j ih =>
    intro i fuel h hf
    obtain ⟨f, rfl⟩ : ∃ f, fuel = f + 1 := ⟨fuel - 1, by omega⟩
    have hi : i < n.path.length := by omega
    have hat : n.path[(i : Int).toNat]? = some n.path[i] := by simp
    have a4 : iop .add .i64 i 1 = ((i + 1 : Nat) : Int) := by rw [add_i (by omega) (by omega)]; omega
    have hp : pathRef n i = (idOk n.path[i] && !(n.path.take i).contains n.path[i]) := by
      unfold pathRef
      rw [List.getElem?_eq_getElem hi]
    have hlt : (n.path.take i).length < 2 ^ 63 := by rw [List.length_take]; omega
    rw [g45L0_eq, if_pos (by simp only [CQ, ids_len]; omega), elem_id _ (by omega) hat, a4, List.range'_succ, List.all_cons, hp]
    simp only [s104, Option.bind_some]
    cases h1 : idOk n.path[i] with
    | false => simp
    | true =>
      rw [if_neg (by simp), reqK_pos (by omega), reqK_pos (by rw [ids_len]; omega), elem_id _ (by omega) hat, Int.toNat_natCast, ids_take, s107 _ hlt, Option.bind_some]
      cases h3 : (n.path.take i).contains n.path[i] with
      | true => simp
      | false =>
        rw [if_neg (by simp)]
        have := ih (i + 1) f (by omega) (by omega)
        rw [this]
        simp

theorem s45 (n : Node) (hl : n.path.length < 2 ^ 63) : g45 n.id.core n.id.op n.id.part (idCells n.path) n.cap.kind n.cap.base n.cap.bits n.cap.rights n.cap.width n.cap.level n.cap.device = some (nodeOk n) := by
  rw [g45_eq, nodeOk_ref]
  simp only [s104, s106, Option.bind_some, ids_len, s107 _ hl]
  cases h1 : idOk n.id with
  | false => simp [show (⟨n.id.core, n.id.op, n.id.part⟩ : Id) = n.id from rfl, h1]
  | true =>
    cases h2 : capOk n.cap with
    | false => simp [show (⟨n.id.core, n.id.op, n.id.part⟩ : Id) = n.id from rfl, h1, show (⟨n.cap.kind, n.cap.base, n.cap.bits, n.cap.rights, n.cap.width, n.cap.level, n.cap.device⟩ : Cap) = n.cap from rfl, h2]
    | true =>
      rw [if_neg (by simp), if_neg (by simp)]
      by_cases h3 : n.path.length ≤ 8
      · rw [if_neg (by simp only [CQ]; omega)]
        cases h4 : n.path.contains n.id with
        | true => simp
        | false =>
          rw [if_neg (by simp)]
          have := l45 n hl n.path.length 0 FUEL (by omega) (fuel_lt (by omega))
          have e : (List.range' 0 n.path.length) = List.range n.path.length := (List.range_eq_range' ..).symm
          rw [e] at this
          refine this.trans ?_
          simp [h3]
      · rw [if_pos (by simp only [CQ]; omega)]
        simp [h3]

theorem l65 {l m : List Id} (hl : l.length < 2 ^ 63) (hm : l.length = m.length) : ∀ (j i fuel : Nat), l.length = i + j → j < fuel → g65L0 fuel (idCells l) (idCells m) i = some (decide (l.drop i = m.drop i)) := by
  intro j
  induction j with
  | zero =>
    intro i fuel h hf
    obtain ⟨f, rfl⟩ : ∃ f, fuel = f + 1 := ⟨fuel - 1, by omega⟩
    rw [g65L0_eq, if_neg (by simp only [CQ, ids_len]; omega), List.drop_of_length_le (by omega), List.drop_of_length_le (by omega)]
    rfl
  | succ j ih =>
    intro i fuel h hf
    obtain ⟨f, rfl⟩ : ∃ f, fuel = f + 1 := ⟨fuel - 1, by omega⟩
    have hi : i < l.length := by omega
    have hi' : i < m.length := by omega
    have hat : l[(i : Int).toNat]? = some l[i] := by simp
    have hat' : m[(i : Int).toNat]? = some m[i] := by simp
    have a4 : iop .add .i64 i 1 = ((i + 1 : Nat) : Int) := by rw [add_i (by omega) (by omega)]; omega
    rw [g65L0_eq, if_pos (by simp only [CQ, ids_len]; omega), elem_id _ (by omega) hat, elem_id _ (by omega) hat', a4, List.drop_eq_getElem_cons hi, List.drop_eq_getElem_cons hi']
    by_cases he : l[i] = m[i]
    · rw [if_neg (by rw [Bool.not_eq_true', ← Bool.not_eq_true, id_eqb]; exact fun h => h he), ih (i + 1) f (by omega) (by omega)]
      simp only [he, List.cons.injEq, true_and]
    · rw [if_pos (by rw [Bool.not_eq_true', ← Bool.not_eq_true, id_eqb]; exact he)]
      simp only [List.cons.injEq, he, false_and, decide_false]

theorem s65 (l m : List Id) (hl : l.length < 2 ^ 63) (hm : m.length < 2 ^ 63) : g65 (idCells l) (idCells m) = some (decide (l = m)) := by
  rw [g65_eq, ids_len, ids_len]
  by_cases h : l.length = m.length
  · rw [if_neg (by simp only [CQ]; omega)]
    have := l65 hl h l.length 0 FUEL (by omega) (fuel_lt (by omega))
    rw [List.drop_zero, List.drop_zero] at this
    exact this
  · rw [if_pos (by simp only [CQ]; omega)]
    have : ¬ l = m := fun he => h (by rw [he])
    simp [this]

theorem s51 (a b c : Int) (l : List Id) (hl : l.length < 2 ^ 63) (k bs s r w lv : Int) (d : Bool) : g51 a b c (idCells l) k bs s r w lv d a b c (idCells l) k bs s r w lv d = some true := by
  rw [g51_eq, s65 l l hl hl, if_pos (by simp [cop]), if_pos (by simp [cop]), Option.bind_some]
  simp

end Go.Proofs.YtceopohbfkamiaaGreat
end

section
namespace Go.Proofs.YtceopohbfkamiaaGreat
open Go Go.AM
set_option linter.unusedSimpArgs false
set_option linter.unusedVariables false
set_option maxRecDepth 100000

/-! loops that scan -/
theorem fuel63 {n : Nat} (h : n < 2 ^ 63) : n + 1 < FUEL := by
  have : (2 : Nat) ^ 64 ≤ FUEL := by decide
  omega

theorem inc_i {i n : Nat} (h : i < n) (hn : n < 2 ^ 63) : iop .add .i64 (i : Int) 1 = ((i + 1 : Nat) : Int) := by
  rw [add_i (by omega) (by omega)]; omega

theorem lss_t {i n : Nat} (h : i < n) : (cop .lss (i : Int) (n : Int)) = true := by
  simp only [CQ]; omega

theorem lss_f {i n : Nat} (h : n ≤ i) : ¬ (cop .lss (i : Int) (n : Int)) = true := by
  simp only [CQ]; omega

theorem scan_all {γ : Type} {F : Nat → Int → Option γ} {n : Nat} {fin bad : Option γ} (p : Nat → Bool) (hn : n < 2 ^ 63) (i0 : Nat) (hi0 : i0 ≤ 1)
    (step : ∀ k i : Nat, i0 ≤ i → i < n → F (k + 1) (i : Int) = if p i = true then F k ((i + 1 : Nat) : Int) else bad)
    (last : ∀ k i : Nat, n ≤ i → F (k + 1) (i : Int) = fin) : F FUEL (i0 : Int) = if (List.range' i0 (n - i0)).all p = true then fin else bad := by
  have key : ∀ (j i fuel : Nat), i0 ≤ i → n ≤ i + j → j < fuel → F fuel (i : Int) = if (List.range' i (n - i)).all p = true then fin else bad := by
    intro j
    induction j with
    | zero =>
      intro i fuel h0 h hf
      obtain ⟨f, rfl⟩ : ∃ f, fuel = f + 1 := ⟨fuel - 1, by omega⟩
      rw [last f i (by omega), show n - i = 0 by omega]
      rfl
    | succ j ih =>
      intro i fuel h0 h hf
      obtain ⟨f, rfl⟩ : ∃ f, fuel = f + 1 := ⟨fuel - 1, by omega⟩
      by_cases hi : i < n
      · rw [step f i h0 hi, show n - i = (n - (i + 1)) + 1 by omega, List.range'_succ, List.all_cons]
        cases hp : p i with
        | true => rw [if_pos rfl, ih (i + 1) f (by omega) (by omega) (by omega), Bool.true_and]
        | false => rw [if_neg Bool.false_ne_true, Bool.false_and, if_neg Bool.false_ne_true]
      · rw [last f i (by omega), show n - i = 0 by omega]
        rfl
  exact key n i0 FUEL (Nat.le_refl _) (by omega) (by have := fuel63 hn; omega)

theorem scan_idx {F : Nat → Int → Option Int} {n : Nat} (p : Nat → Bool) (hn : n < 2 ^ 63)
    (step : ∀ k i : Nat, i < n → F (k + 1) (i : Int) = if p i = true then some (i : Int) else F k ((i + 1 : Nat) : Int))
    (last : ∀ k i : Nat, n ≤ i → F (k + 1) (i : Int) = some (-1)) : ∃ r, F FUEL 0 = some r ∧ cop .geq r 0 = (List.range' 0 n).any p := by
  have key : ∀ (j i fuel : Nat), n ≤ i + j → j < fuel → ∃ r, F fuel (i : Int) = some r ∧ cop .geq r 0 = (List.range' i (n - i)).any p := by
    intro j
    induction j with
    | zero =>
      intro i fuel h hf
      obtain ⟨f, rfl⟩ : ∃ f, fuel = f + 1 := ⟨fuel - 1, by omega⟩
      rw [last f i (by omega), show n - i = 0 by omega]
      exact ⟨_, rfl, rfl⟩
    | succ j ih =>
      intro i fuel h hf
      obtain ⟨f, rfl⟩ : ∃ f, fuel = f + 1 := ⟨fuel - 1, by omega⟩
      by_cases hi : i < n
      · rw [step f i hi, show n - i = (n - (i + 1)) + 1 by omega, List.range'_succ, List.any_cons]
        cases hp : p i with
        | true =>
          rw [if_pos rfl, Bool.true_or]
          refine ⟨_, rfl, ?_⟩
          simp only [CQ]
          omega
        | false => rw [if_neg Bool.false_ne_true, Bool.false_or]; exact ih (i + 1) f (by omega) (by omega)
      · rw [last f i (by omega), show n - i = 0 by omega]
        exact ⟨_, rfl, rfl⟩
  have := key n 0 FUEL (by omega) (by have := fuel63 hn; omega)
  simpa using this

def atB {α : Type} (q : α → Bool) (l : List α) (i : Nat) : Bool := match l[i]? with | some x => q x | none => true

theorem atB_at {α : Type} (q : α → Bool) {l : List α} {i : Nat} (h : i < l.length) : atB q l i = q l[i] := by
  unfold atB
  rw [List.getElem?_eq_getElem h]

theorem all_at {α : Type} (q : α → Bool) (l : List α) : (List.range' 0 l.length).all (atB q l) = l.all q := by
  rw [bool_iff, List.all_eq_true, List.all_eq_true]
  constructor
  · intro h x hx
    obtain ⟨i, hi, rfl⟩ := List.getElem_of_mem hx
    have := h i (by simp [List.mem_range', hi])
    rwa [atB_at q hi] at this
  · intro h i hi
    have hi' : i < l.length := by simpa [List.mem_range'] using hi
    rw [atB_at q hi']
    exact h _ (List.getElem_mem hi')

theorem any_at {α : Type} (q : α → Bool) (l : List α) : (List.range' 0 l.length).any (fun i => !atB q l i) = !(l.all q) := by
  rw [← all_at q l, List.any_eq_not_all_not]
  simp

/-- The element before is less. -/
def prevB {α : Type} (lt : α → α → Bool) (l : List α) : Nat → Bool
  | 0 => true
  | j + 1 => match l[j]?, l[j + 1]? with | some a, some b => lt a b | _, _ => true

def ascB {α : Type} (lt : α → α → Bool) (l : List α) : Bool := (List.range' 0 l.length).all (prevB lt l)

theorem prev_at {α : Type} (lt : α → α → Bool) {l : List α} {j : Nat} (h : j + 1 < l.length) : prevB lt l (j + 1) = lt l[j] l[j + 1] := by
  show (match l[j]?, l[j + 1]? with | some a, some b => lt a b | _, _ => true) = _
  rw [List.getElem?_eq_getElem h, List.getElem?_eq_getElem (show j < l.length by omega)]

theorem asc1 {α : Type} (lt : α → α → Bool) (l : List α) : (List.range' 1 (l.length - 1)).all (prevB lt l) = ascB lt l := by
  unfold ascB
  cases l with
  | nil => rfl
  | cons a r => rw [show (a :: r).length = ((a :: r).length - 1) + 1 from rfl, List.range'_succ, List.all_cons]; rfl

theorem all_and {α : Type} (l : List α) (p q : α → Bool) : l.all (fun i => p i && q i) = (l.all p && l.all q) := by
  induction l with
  | nil => rfl
  | cons a r ih => simp only [List.all_cons, ih]; cases p a <;> cases q a <;> cases r.all p <;> rfl

theorem both_at {α : Type} (q : α → Bool) (lt : α → α → Bool) (l : List α) : (List.range' 0 l.length).all (fun i => atB q l i && prevB lt l i) = (l.all q && ascB lt l) := by
  rw [all_and, all_at]; rfl

/-! the parts of messages -/
structure Call where
  kind : Int
  slot : Int
  dest : Int
  core : Int
  mask : Int
  object : Int
  bits : Int
  level : Int
  offset : Int
  count : Int
  index : Int
  addr : Int

structure Req where
  id : Id
  call : Call
  region : Int
  width : Int
  src : Node

structure Slot where
  node : Node
  op : Int
  lock : Id

structure Mark where
  region : Int
  op : Id

structure Ans where
  op : Int
  err : Int

structure Entry where
  core : Int
  slot : Int
  node : Node

structure Move where
  region : Int
  to : Int

structure View where
  number : Int
  members : List Int
  owners : List Int

structure State where
  slots : List Slot
  pending : List Req
  marks : List Mark
  answers : List Ans
  entries : List Entry
  commits : List Id

structure Report where
  core : Int
  view : View
  state : State
  ready : Bool
  next : View
  proposal : State

def nodec (n : Node) : List AV := [I n.id.core, I n.id.op, I n.id.part, .slice false 3 (idCells n.path), I n.cap.kind, I n.cap.base, I n.cap.bits, I n.cap.rights, I n.cap.width, I n.cap.level, B n.cap.device]
def callc (c : Call) : List AV := [I c.kind, I c.slot, I c.dest, I c.core, I c.mask, I c.object, I c.bits, I c.level, I c.offset, I c.count, I c.index, I c.addr]
def reqc (r : Req) : List AV := [I r.id.core, I r.id.op, I r.id.part, I r.call.kind, I r.call.slot, I r.call.dest, I r.call.core, I r.call.mask, I r.call.object, I r.call.bits, I r.call.level, I r.call.offset, I r.call.count, I r.call.index, I r.call.addr, I r.region, I r.width, I r.src.id.core, I r.src.id.op, I r.src.id.part, .slice false 3 (idCells r.src.path), I r.src.cap.kind, I r.src.cap.base, I r.src.cap.bits, I r.src.cap.rights, I r.src.cap.width, I r.src.cap.level, B r.src.cap.device]
def slotc (s : Slot) : List AV := [I s.node.id.core, I s.node.id.op, I s.node.id.part, .slice false 3 (idCells s.node.path), I s.node.cap.kind, I s.node.cap.base, I s.node.cap.bits, I s.node.cap.rights, I s.node.cap.width, I s.node.cap.level, B s.node.cap.device, I s.op, I s.lock.core, I s.lock.op, I s.lock.part]
def markc (m : Mark) : List AV := [I m.region, I m.op.core, I m.op.op, I m.op.part]
def ansc (a : Ans) : List AV := [I a.op, I a.err]
def movec (a : Move) : List AV := [I a.region, I a.to]
def entryc (e : Entry) : List AV := [I e.core, I e.slot, I e.node.id.core, I e.node.id.op, I e.node.id.part, .slice false 3 (idCells e.node.path), I e.node.cap.kind, I e.node.cap.base, I e.node.cap.bits, I e.node.cap.rights, I e.node.cap.width, I e.node.cap.level, B e.node.cap.device]

abbrev nodeSh : List Sh := [.int .i64, .int .i64, .int .i64, .slice 3, .int .i64, .int .i64, .int .i64, .int .i64, .int .i64, .int .i64, .bool]
abbrev reqSh : List Sh := [.int .i64, .int .i64, .int .i64, .int .i64, .int .i64, .int .i64, .int .i64, .int .i64, .int .i64, .int .i64, .int .i64, .int .i64, .int .i64, .int .i64, .int .i64, .int .i64, .int .i64, .int .i64, .int .i64, .int .i64, .slice 3, .int .i64, .int .i64, .int .i64, .int .i64, .int .i64, .int .i64, .bool]
abbrev slotSh : List Sh := [.int .i64, .int .i64, .int .i64, .slice 3, .int .i64, .int .i64, .int .i64, .int .i64, .int .i64, .int .i64, .bool, .int .i64, .int .i64, .int .i64, .int .i64]
abbrev entrySh : List Sh := [.int .i64, .int .i64, .int .i64, .int .i64, .int .i64, .slice 3, .int .i64, .int .i64, .int .i64, .int .i64, .int .i64, .int .i64, .bool]

def nodeV (n : Node) : ShsT nodeSh := (n.id.core, n.id.op, n.id.part, idCells n.path, n.cap.kind, n.cap.base, n.cap.bits, n.cap.rights, n.cap.width, n.cap.level, n.cap.device)
def reqV (r : Req) : ShsT reqSh := (r.id.core, r.id.op, r.id.part, r.call.kind, r.call.slot, r.call.dest, r.call.core, r.call.mask, r.call.object, r.call.bits, r.call.level, r.call.offset, r.call.count, r.call.index, r.call.addr, r.region, r.width, r.src.id.core, r.src.id.op, r.src.id.part, idCells r.src.path, r.src.cap.kind, r.src.cap.base, r.src.cap.bits, r.src.cap.rights, r.src.cap.width, r.src.cap.level, r.src.cap.device)
def slotV (s : Slot) : ShsT slotSh := (s.node.id.core, s.node.id.op, s.node.id.part, idCells s.node.path, s.node.cap.kind, s.node.cap.base, s.node.cap.bits, s.node.cap.rights, s.node.cap.width, s.node.cap.level, s.node.cap.device, s.op, s.lock.core, s.lock.op, s.lock.part)
def entryV (e : Entry) : ShsT entrySh := (e.core, e.slot, e.node.id.core, e.node.id.op, e.node.id.part, idCells e.node.path, e.node.cap.kind, e.node.cap.base, e.node.cap.bits, e.node.cap.rights, e.node.cap.width, e.node.cap.level, e.node.cap.device)

theorem elem_map {α γ : Type} {f : α → List AV} {sh : List Sh} {v : α → ShsT sh} (hf : ∀ x, ofEs sh (f x) = some (v x)) {l : List α} {i : Nat} (h : i < l.length) (k : ShsT sh → Option γ) : elemK (l.map f) (i : Int) sh k = k (v l[i]) := by
  refine elemK_at k (by omega) (cs := f l[i]) ?_ (hf _)
  rw [Int.toNat_natCast, List.getElem?_map, List.getElem?_eq_getElem h]
  rfl

theorem elem_nodes {γ : Type} {l : List Node} {i : Nat} (h : i < l.length) (k : ShsT nodeSh → Option γ) : elemK (l.map nodec) (i : Int) nodeSh k = k (nodeV l[i]) := elem_map (fun _ => rfl) h k
theorem elem_reqs {γ : Type} {l : List Req} {i : Nat} (h : i < l.length) (k : ShsT reqSh → Option γ) : elemK (l.map reqc) (i : Int) reqSh k = k (reqV l[i]) := elem_map (fun _ => rfl) h k
theorem elem_slots {γ : Type} {l : List Slot} {i : Nat} (h : i < l.length) (k : ShsT slotSh → Option γ) : elemK (l.map slotc) (i : Int) slotSh k = k (slotV l[i]) := elem_map (fun _ => rfl) h k
theorem elem_entries {γ : Type} {l : List Entry} {i : Nat} (h : i < l.length) (k : ShsT entrySh → Option γ) : elemK (l.map entryc) (i : Int) entrySh k = k (entryV l[i]) := elem_map (fun _ => rfl) h k
theorem elem_marks {γ : Type} {l : List Mark} {i : Nat} (h : i < l.length) (k : (Int × Int × Int × Int) → Option γ) : elemK (l.map markc) (i : Int) [.int .i64, .int .i64, .int .i64, .int .i64] k = k (l[i].region, l[i].op.core, l[i].op.op, l[i].op.part) := elem_map (sh := [.int .i64, .int .i64, .int .i64, .int .i64]) (v := fun x => (x.region, x.op.core, x.op.op, x.op.part)) (fun _ => rfl) h k
theorem elem_anss {γ : Type} {l : List Ans} {i : Nat} (h : i < l.length) (k : (Int × Int) → Option γ) : elemK (l.map ansc) (i : Int) [.int .i64, .int .i64] k = k (l[i].op, l[i].err) := elem_map (sh := [.int .i64, .int .i64]) (v := fun x => (x.op, x.err)) (fun _ => rfl) h k
theorem elem_moves {γ : Type} {l : List Move} {i : Nat} (h : i < l.length) (k : (Int × Int) → Option γ) : elemK (l.map movec) (i : Int) [.int .i64, .int .i64] k = k (l[i].region, l[i].to) := elem_map (sh := [.int .i64, .int .i64]) (v := fun x => (x.region, x.to)) (fun _ => rfl) h k
theorem elem_ids {γ : Type} {l : List Id} {i : Nat} (h : i < l.length) (k : (Int × Int × Int) → Option γ) : elemK (idCells l) (i : Int) [.int .i64, .int .i64, .int .i64] k = k (l[i].core, l[i].op, l[i].part) := elem_map (f := idc) (sh := [.int .i64, .int .i64, .int .i64]) (v := fun x => (x.core, x.op, x.part)) (fun _ => rfl) h k
theorem elem_ints {γ : Type} {l : List Int} {i : Nat} (h : i < l.length) (k : Int → Option γ) : elemK (intCells l) (i : Int) [.int .i64] k = k l[i] := elem_map (f := i64c) (sh := [.int .i64]) (v := fun x => x) (fun _ => rfl) h k

theorem id_eta (i : Id) : (⟨i.core, i.op, i.part⟩ : Id) = i := rfl

end Go.Proofs.YtceopohbfkamiaaGreat
end

section
namespace Go.Proofs.YtceopohbfkamiaaGreat
open Go Go.AM
set_option linter.unusedSimpArgs false
set_option linter.unusedVariables false
set_option maxRecDepth 100000

def coreOk (z : Int) : Bool := decide (0 ≤ z ∧ z < 32)
def regOk (z : Int) : Bool := decide (0 ≤ z ∧ z < 16)
def slotOk (z : Int) : Bool := decide (0 ≤ z ∧ z < 64)
def errOk (z : Int) : Bool := decide (0 ≤ z ∧ z ≤ 99)
def opOk (i : Id) : Bool := idOk i && decide (i.part = 0)

theorem s32 (z : Int) : g32 z = some (coreOk z) := by
  rw [g32_eq]
  repeat' split
  all_goals (refine congrArg some ?_; rw [bool_iff]; simp only [coreOk, CQ] at *; omega)

theorem s37 (z : Int) : g37 z = some (coreOk z) := by
  rw [g37_eq]
  repeat' split
  all_goals (refine congrArg some ?_; rw [bool_iff]; simp only [coreOk, CQ] at *; omega)

theorem s48 (z : Int) : g48 z = some (regOk z) := by
  rw [g48_eq]
  repeat' split
  all_goals (refine congrArg some ?_; rw [bool_iff]; simp only [regOk, CQ] at *; omega)

theorem s46 (z : Int) : g46 z = some (regOk z) := by
  rw [g46_eq]
  repeat' split
  all_goals (refine congrArg some ?_; rw [bool_iff]; simp only [regOk, CQ] at *; omega)

theorem s89 (z : Int) : g89 z = some (slotOk z) := by
  rw [g89_eq]
  repeat' split
  all_goals (refine congrArg some ?_; rw [bool_iff]; simp only [slotOk, CQ] at *; omega)

theorem s86 (z : Int) : g86 z = some (errOk z) := by
  rw [g86_eq]
  repeat' split
  all_goals (refine congrArg some ?_; rw [bool_iff]; simp only [errOk, CQ] at *; omega)

theorem s39 (z : Int) : g39 z = some (errOk z) := by
  rw [g39_eq]
  repeat' split
  all_goals (refine congrArg some ?_; rw [bool_iff]; simp only [errOk, CQ] at *; omega)

theorem s47 (i : Id) : g47 i.core i.op i.part = some (opOk i) := by
  rw [g47_eq, s91, Option.bind_some, id_eta]
  repeat' split
  all_goals (refine congrArg some ?_; rw [bool_iff]; simp only [opOk, CQ] at *; grind)

theorem s38 (i : Id) : g38 i.core i.op i.part = some (opOk i) := by
  rw [g38_eq, s104, Option.bind_some, id_eta]
  repeat' split
  all_goals (refine congrArg some ?_; rw [bool_iff]; simp only [opOk, CQ] at *; grind)

/-! nodes compared -/
theorem l108 {l m : List Id} (hl : l.length < 2 ^ 63) (h : l.length = m.length) : g108L0 FUEL (idCells l) (idCells m) (l.length : Int) 0 = some (decide (l = m)) := by
  have := scan_all (F := fun k i => g108L0 k (idCells l) (idCells m) (l.length : Int) i) (n := l.length) (fin := some true) (bad := some false) (fun i => decide (l[i]? = m[i]?)) hl 0 (by omega)
    (fun k i _ hi => by
      have hm : i < m.length := by omega
      show g108L0 (k + 1) _ _ _ _ = _
      rw [g108L0_eq, if_pos (lss_t hi), elem_ids hi, elem_ids hm, inc_i hi hl]
      rw [List.getElem?_eq_getElem hi, List.getElem?_eq_getElem hm]
      by_cases he : l[i] = m[i]
      · rw [if_neg (by rw [Bool.not_eq_true', ← Bool.not_eq_true, id_eqb]; exact fun h => h he), if_pos (by simp [he])]
      · rw [if_pos (by rw [Bool.not_eq_true', ← Bool.not_eq_true, id_eqb]; exact he), if_neg (by simp [he])])
    (fun k i hi => by show g108L0 (k + 1) _ _ _ _ = _; rw [g108L0_eq, if_neg (lss_f hi)])
  refine this.trans ?_
  have e : (List.range' 0 (l.length - 0)).all (fun i => decide (l[i]? = m[i]?)) = decide (l = m) := by
    rw [bool_iff, List.all_eq_true, decide_eq_true_eq]
    constructor
    · intro hh
      refine List.ext_getElem? fun i => ?_
      by_cases hi : i < l.length
      · exact of_decide_eq_true (hh i (by simp [List.mem_range', hi]))
      · rw [List.getElem?_eq_none (by omega), List.getElem?_eq_none (by omega)]
    · rintro rfl i _
      exact decide_eq_true rfl
  rw [e]
  cases decide (l = m) <;> rfl

theorem s108 (l m : List Id) (hl : l.length < 2 ^ 63) : g108 (idCells l) (idCells m) = some (decide (l = m)) := by
  rw [g108_eq, ids_len, ids_len]
  by_cases h : l.length = m.length
  · rw [if_neg (by simp [cop, h]), l108 hl h]
  · rw [if_pos (by simp [cop]; omega)]
    have : ¬ l = m := fun he => h (by rw [he])
    simp [this]

def sameN (a b : Node) : Bool := decide (a.id = b.id) && decide (a.cap.kind = b.cap.kind ∧ a.cap.base = b.cap.base ∧ a.cap.bits = b.cap.bits ∧ a.cap.rights = b.cap.rights ∧ a.cap.width = b.cap.width ∧ a.cap.level = b.cap.level ∧ a.cap.device = b.cap.device) && decide (a.path = b.path)

theorem cap_eqb (a b : Cap) : (((cop .eql a.kind b.kind) && ((cop .eql a.base b.base) && ((cop .eql a.bits b.bits) && ((cop .eql a.rights b.rights) && ((cop .eql a.width b.width) && ((cop .eql a.level b.level) && ((a.device == b.device) && true))))))) = true) ↔ (a.kind = b.kind ∧ a.base = b.base ∧ a.bits = b.bits ∧ a.rights = b.rights ∧ a.width = b.width ∧ a.level = b.level ∧ a.device = b.device) := by
  simp only [CQ, beq_iff_eq, and_true]

theorem s49 (a b : Node) (ha : a.path.length < 2 ^ 63) : g49 a.id.core a.id.op a.id.part (idCells a.path) a.cap.kind a.cap.base a.cap.bits a.cap.rights a.cap.width a.cap.level a.cap.device b.id.core b.id.op b.id.part (idCells b.path) b.cap.kind b.cap.base b.cap.bits b.cap.rights b.cap.width b.cap.level b.cap.device = some (sameN a b) := by
  rw [g49_eq, s108 _ _ ha, Option.bind_some]
  unfold sameN
  refine ite_goal (fun h => ?_) fun h => ?_
  · rw [id_eqb] at h
    refine ite_goal (fun h2 => ?_) fun h2 => ?_
    · rw [cap_eqb] at h2
      rw [decide_eq_true (show a.id = b.id from h), decide_eq_true h2]; rfl
    · rw [cap_eqb] at h2
      rw [decide_eq_true (show a.id = b.id from h), decide_eq_false h2]; rfl
  · rw [id_eqb] at h
    rw [decide_eq_false (show ¬ a.id = b.id from h)]; rfl

theorem s51' (a b : Node) (ha : a.path.length < 2 ^ 63) (hb : b.path.length < 2 ^ 63) : g51 a.id.core a.id.op a.id.part (idCells a.path) a.cap.kind a.cap.base a.cap.bits a.cap.rights a.cap.width a.cap.level a.cap.device b.id.core b.id.op b.id.part (idCells b.path) b.cap.kind b.cap.base b.cap.bits b.cap.rights b.cap.width b.cap.level b.cap.device = some (sameN a b) := by
  rw [g51_eq, s65 _ _ ha hb, Option.bind_some]
  unfold sameN
  refine ite_goal (fun h => ?_) fun h => ?_
  · rw [id_eqb] at h
    refine ite_goal (fun h2 => ?_) fun h2 => ?_
    · rw [cap_eqb] at h2
      rw [decide_eq_true (show a.id = b.id from h), decide_eq_true h2]; rfl
    · rw [cap_eqb] at h2
      rw [decide_eq_true (show a.id = b.id from h), decide_eq_false h2]; rfl
  · rw [id_eqb] at h
    rw [decide_eq_false (show ¬ a.id = b.id from h)]; rfl

def noNode : Node := ⟨⟨0, 0, 0⟩, [], ⟨0, 0, 0, 0, 0, 0, false⟩⟩

theorem s49z (a : Node) (ha : a.path.length < 2 ^ 63) : g49 a.id.core a.id.op a.id.part (idCells a.path) a.cap.kind a.cap.base a.cap.bits a.cap.rights a.cap.width a.cap.level a.cap.device 0 0 0 ([] : List (List AV)) 0 0 0 0 0 0 false = some (sameN a noNode) := s49 a noNode ha
theorem s51z (a : Node) (ha : a.path.length < 2 ^ 63) : g51 a.id.core a.id.op a.id.part (idCells a.path) a.cap.kind a.cap.base a.cap.bits a.cap.rights a.cap.width a.cap.level a.cap.device 0 0 0 ([] : List (List AV)) 0 0 0 0 0 0 false = some (sameN a noNode) := s51' a noNode ha (by simp [noNode])

/-! requests -/
def reqOk (r : Req) : Bool := opOk r.id && decide (1 ≤ r.call.kind ∧ r.call.kind ≤ 6) && regOk r.region && decide (r.width = 32 ∨ r.width = 39) && (if r.call.kind = 1 then sameN r.src noNode else nodeOk r.src)

theorem s12 (r : Req) (hr : r.src.path.length < 2 ^ 63) : g12 r.id.core r.id.op r.id.part r.call.kind r.call.slot r.call.dest r.call.core r.call.mask r.call.object r.call.bits r.call.level r.call.offset r.call.count r.call.index r.call.addr r.region r.width r.src.id.core r.src.id.op r.src.id.part (idCells r.src.path) r.src.cap.kind r.src.cap.base r.src.cap.bits r.src.cap.rights r.src.cap.width r.src.cap.level r.src.cap.device = some (reqOk r) := by
  rw [g12_eq]
  simp only [s47, s48, s49z _ hr, s50 _ hr, Option.bind_some]
  repeat' split
  all_goals (refine congrArg some ?_; rw [bool_iff]; simp only [reqOk, CQ] at *; grind)

theorem s13 (r : Req) (hr : r.src.path.length < 2 ^ 63) : g13 r.id.core r.id.op r.id.part r.call.kind r.call.slot r.call.dest r.call.core r.call.mask r.call.object r.call.bits r.call.level r.call.offset r.call.count r.call.index r.call.addr r.region r.width r.src.id.core r.src.id.op r.src.id.part (idCells r.src.path) r.src.cap.kind r.src.cap.base r.src.cap.bits r.src.cap.rights r.src.cap.width r.src.cap.level r.src.cap.device = some (reqOk r) := by
  rw [g13_eq]
  simp only [s38, s46, s51z _ hr, s45 _ hr, Option.bind_some]
  repeat' split
  all_goals (refine congrArg some ?_; rw [bool_iff]; simp only [reqOk, CQ] at *; grind)

end Go.Proofs.YtceopohbfkamiaaGreat
end

section
namespace Go.Proofs.YtceopohbfkamiaaGreat
open Go Go.AM
set_option linter.unusedSimpArgs false
set_option linter.unusedVariables false
set_option maxRecDepth 100000

theorem scan_hit {γ : Type} {F : Nat → Int → Option γ} {n : Nat} {miss : γ} (hit : Nat → γ) (p : Nat → Bool) (hn : n < 2 ^ 63)
    (step : ∀ k i : Nat, i < n → F (k + 1) (i : Int) = if p i = true then some (hit i) else F k ((i + 1 : Nat) : Int))
    (last : ∀ k i : Nat, n ≤ i → F (k + 1) (i : Int) = some miss) :
    (∃ i, i < n ∧ p i = true ∧ (∀ j, j < i → p j = false) ∧ F FUEL 0 = some (hit i)) ∨ ((∀ j, j < n → p j = false) ∧ F FUEL 0 = some miss) := by
  have key : ∀ (j i fuel : Nat), n ≤ i + j → j < fuel → (∃ m, i ≤ m ∧ m < n ∧ p m = true ∧ (∀ j, i ≤ j → j < m → p j = false) ∧ F fuel (i : Int) = some (hit m)) ∨ ((∀ j, i ≤ j → j < n → p j = false) ∧ F fuel (i : Int) = some miss) := by
    intro j
    induction j with
    | zero =>
      intro i fuel h hf
      obtain ⟨f, rfl⟩ : ∃ f, fuel = f + 1 := ⟨fuel - 1, by omega⟩
      exact .inr ⟨fun j h1 h2 => by omega, last f i (by omega)⟩
    | succ j ih =>
      intro i fuel h hf
      obtain ⟨f, rfl⟩ : ∃ f, fuel = f + 1 := ⟨fuel - 1, by omega⟩
      by_cases hi : i < n
      · rw [step f i hi]
        cases hp : p i with
        | true => exact .inl ⟨i, Nat.le_refl _, hi, hp, fun j h1 h2 => by omega, if_pos rfl⟩
        | false =>
          rw [if_neg Bool.false_ne_true]
          rcases ih (i + 1) f (by omega) (by omega) with ⟨m, h1, h2, h3, h4, h5⟩ | ⟨h1, h2⟩
          · refine .inl ⟨m, by omega, h2, h3, fun j h6 h7 => ?_, h5⟩
            by_cases he : j = i
            · rw [he]; exact hp
            · exact h4 j (by omega) h7
          · refine .inr ⟨fun j h6 h7 => ?_, h2⟩
            by_cases he : j = i
            · rw [he]; exact hp
            · exact h1 j (by omega) h7
      · exact .inr ⟨fun j h1 h2 => by omega, last f i (by omega)⟩
  rcases key n 0 FUEL (by omega) (by have := fuel63 hn; omega) with ⟨m, _, h2, h3, h4, h5⟩ | ⟨h1, h2⟩
  · exact .inl ⟨m, h2, h3, fun j hj => h4 j (by omega) hj, h5⟩
  · exact .inr ⟨fun j hj => h1 j (by omega) hj, h2⟩

def zid : Id := ⟨0, 0, 0⟩
def hitS (i : Id) (t : Slot) : Bool := !decide (t.node.id = zid) && decide (t.node.id = i)
def slot1 (s : Slot) : Bool := decide (0 ≤ s.op ∧ s.op ≤ 1073741824) && (if s.node.id = zid then sameN s.node noNode && decide (s.lock = zid) else nodeOk s.node && (decide (s.lock = zid) || opOk s.lock))
/-- No slot before holds the same node. -/
def uniqAt (l : List Slot) (i : Nat) : Bool := match l[i]? with | some s => !((l.take i).any (hitS s.node.id)) | none => true

def slotsOk (l : List Slot) : Bool := decide (l.length ≤ 64) && (List.range' 0 l.length).all (fun i => atB slot1 l i && uniqAt l i)

theorem zid_eqb (a b c : Int) : ((cop .eql a 0 && (cop .eql b 0 && (cop .eql c 0 && true))) = true) ↔ ((⟨a, b, c⟩ : Id) = zid) := id_eqb a b c 0 0 0

theorem s111 (s : Slot) (hs : s.node.path.length < 2 ^ 63) : g111 s.node.id.core s.node.id.op s.node.id.part (idCells s.node.path) s.node.cap.kind s.node.cap.base s.node.cap.bits s.node.cap.rights s.node.cap.width s.node.cap.level s.node.cap.device s.op s.lock.core s.lock.op s.lock.part = some (slot1 s) := by
  rw [g111_eq]
  simp only [g164_eq, s49z _ hs, s50 _ hs, s91, Option.bind_some, zid_eqb, id_eta]
  have e : cop .eql s.lock.part 0 = decide (s.lock.part = 0) := rfl
  have e2 : ((cop .eql s.lock.core 0) && ((cop .eql s.lock.op 0) && ((cop .eql s.lock.part 0) && true))) = decide (s.lock = zid) := by
    rw [bool_iff, zid_eqb, id_eta, decide_eq_true_eq]
  simp only [e2]
  repeat' split
  all_goals (refine congrArg some ?_; rw [bool_iff]; simp only [slot1, opOk, CQ] at *; grind)

theorem any_take {α : Type} (q : α → Bool) (l : List α) (i : Nat) (hi : i ≤ l.length) : (l.take i).any q = true ↔ ∃ j, ∃ (h : j < l.length), j < i ∧ q l[j] = true := by
  rw [List.any_eq_true]
  constructor
  · rintro ⟨x, hx, hq⟩
    obtain ⟨j, hj, rfl⟩ := List.getElem_of_mem hx
    rw [List.length_take] at hj
    rw [List.getElem_take] at hq
    exact ⟨j, by omega, by omega, hq⟩
  · rintro ⟨j, h1, h2, hq⟩
    refine ⟨l[j], ?_, hq⟩
    rw [List.mem_iff_getElem]
    exact ⟨j, by rw [List.length_take]; omega, by rw [List.getElem_take]⟩

theorem slots_len (l : List Slot) : (l.map slotc).length = l.length := List.length_map _

theorem s112 (l : List Slot) (hl : l.length < 2 ^ 63) (a b c : Int) : ∃ r, g112 (l.map slotc) a b c = some (r, l.any (hitS ⟨a, b, c⟩)) := by
  rw [g112_eq, slots_len]
  have := scan_hit (F := fun k i => g112L0 k a b c (l.map slotc) (l.length : Int) i) (n := l.length) (miss := ((0 : Int), false)) (fun i => ((i : Int), true)) (atB (hitS ⟨a, b, c⟩) l) hl
    (fun k i hi => by
      show g112L0 (k + 1) _ _ _ _ _ _ = _
      rw [g112L0_eq, if_pos (lss_t hi)]
      refine (elem_slots hi _).trans ?_
      simp only [slotV, d2, d4, d8, d16]
      rw [g164_eq, Option.bind_some, inc_i hi hl, atB_at _ hi]
      generalize l[i] = t
      simp only [zid_eqb, id_eqb, id_eta, Bool.not_eq_true']
      unfold hitS
      by_cases h1 : t.node.id = zid
      · rw [if_neg (by simp only [Bool.not_eq_false]; rw [zid_eqb]; exact h1), if_neg (by simp [h1])]
      · rw [if_pos (by rw [← Bool.not_eq_true, zid_eqb]; exact h1)]
        by_cases h2 : t.node.id = ⟨a, b, c⟩
        · rw [if_pos (by exact h2), if_pos (by simp [h1, h2]; exact fun h => h1 (h2.trans h))]
        · rw [if_neg (by exact h2), if_neg (by simp [h1, h2])])
    (fun k i hi => by show g112L0 (k + 1) _ _ _ _ _ _ = _; rw [g112L0_eq, if_neg (lss_f hi)])
  rcases this with ⟨i, h1, h2, h3, h4⟩ | ⟨h1, h2⟩
  · refine ⟨i, ?_⟩
    have e : l.any (hitS ⟨a, b, c⟩) = true := by
      rw [atB_at _ h1] at h2
      exact List.any_eq_true.2 ⟨l[i], List.getElem_mem h1, h2⟩
    rw [e]; exact h4
  · refine ⟨0, ?_⟩
    have e : l.any (hitS ⟨a, b, c⟩) = false := by
      rw [List.any_eq_false]
      intro x hx
      obtain ⟨j, hj, rfl⟩ := List.getElem_of_mem hx
      have := h1 j hj
      rw [atB_at _ hj] at this
      rw [this]; exact Bool.false_ne_true
    rw [e]; exact h2

theorem s52 (l : List Slot) (hl : l.length < 2 ^ 63) (hp : ∀ s ∈ l, s.node.path.length < 2 ^ 63) : g52 (l.map slotc) = some (slotsOk l) := by
  rw [g52_eq, slots_len]
  unfold slotsOk
  refine ite_goal (fun h => ?_) fun h => ?_
  · rw [decide_eq_false (by simp only [CQ] at h; omega), Bool.false_and]
  · rw [decide_eq_true (by simp only [CQ] at h; omega), Bool.true_and]
    have := scan_all (F := fun k i => g52L0 k (l.map slotc) (l.map slotc) (l.length : Int) i) (n := l.length) (fin := some true) (bad := some false) (fun i => atB slot1 l i && uniqAt l i) hl 0 (by omega)
      (fun k i _ hi => by
        show g52L0 (k + 1) _ _ _ _ = _
        rw [g52L0_eq, if_pos (lss_t hi)]
        refine (elem_slots hi _).trans ?_
        simp only [slotV, d2, d4, d8, d16]
        obtain ⟨r, hr⟩ := s112 (l.take i) (by rw [List.length_take]; omega) l[i].node.id.core l[i].node.id.op l[i].node.id.part
        have hu : uniqAt l i = !((l.take i).any (hitS l[i].node.id)) := by unfold uniqAt; rw [List.getElem?_eq_getElem hi]
        rw [s111 _ (hp _ (List.getElem_mem hi)), Option.bind_some, reqK_pos (by omega), reqK_pos (by rw [slots_len]; omega), Int.toNat_natCast, ← List.map_take, hr, Option.bind_some, inc_i hi hl, atB_at _ hi, hu, id_eta]
        cases slot1 l[i] <;> cases (l.take i).any (hitS l[i].node.id) <;> rfl)
      (fun k i hi => by show g52L0 (k + 1) _ _ _ _ = _; rw [g52L0_eq, if_neg (lss_f hi)])
    refine this.trans ?_
    rw [Nat.sub_zero]
    cases (List.range' 0 l.length).all (fun i => atB slot1 l i && uniqAt l i) <;> rfl

theorem s128 (l : List Slot) (hl : l.length < 2 ^ 63) (i : Nat) (hi : i < l.length) (hz : ¬ l[i].node.id = zid) : ∃ r, g128 (l.map slotc) l[i].node.id.core l[i].node.id.op l[i].node.id.part = some r ∧ (r = (i : Int) ↔ uniqAt l i = true) := by
  rw [g128_eq]
  have hself : hitS l[i].node.id l[i] = true := by simp [hitS, hz]
  have hu : uniqAt l i = !((l.take i).any (hitS l[i].node.id)) := by unfold uniqAt; rw [List.getElem?_eq_getElem hi]
  have := scan_hit (F := fun k j => g128L0 k (l.map slotc) l[i].node.id.core l[i].node.id.op l[i].node.id.part j) (n := l.length) (miss := (-1 : Int)) (fun j => (j : Int)) (atB (hitS l[i].node.id) l) hl
    (fun k j hj => by
      show g128L0 (k + 1) _ _ _ _ _ = _
      rw [g128L0_eq, slots_len, if_pos (lss_t hj)]
      refine (elem_slots hj _).trans ?_
      simp only [slotV, d2, d4, d8, d16]
      rw [g127_eq, Option.bind_some, inc_i hj hl, atB_at _ hj]
      generalize l[i].node.id = w
      refine (ite_goal (x := if hitS w l[j] = true then some (j : Int) else _) (fun h => ?_) fun h => ?_)
      · refine (elem_slots hj _).trans ?_
        simp only [slotV, d2, d4, d8, d16]
        simp only [Bool.not_eq_true'] at h
        rw [← Bool.not_eq_true, zid_eqb, id_eta] at h
        unfold hitS
        by_cases h2 : l[j].node.id = w
        · simp only [id_eqb, id_eta, h2, if_true]
          rw [if_pos (by simp; exact fun h3 => h (h2.trans h3))]
        · simp only [id_eqb, id_eta, h2, if_false]
          rw [if_neg (by simp)]
      · simp only [Bool.not_eq_true', Bool.not_eq_false] at h
        rw [zid_eqb, id_eta] at h
        rw [if_neg (by simp [hitS, h])])
    (fun k j hj => by show g128L0 (k + 1) _ _ _ _ _ = _; rw [g128L0_eq, slots_len, if_neg (lss_f hj)])
  rcases this with ⟨m, h1, h2, h3, h4⟩ | ⟨h1, _⟩
  · refine ⟨m, h4, ?_⟩
    rw [hu, Bool.not_eq_true', ← Bool.not_eq_true, any_take _ _ _ (by omega)]
    constructor
    · intro he
      have he' : m = i := by omega
      subst he'
      rintro ⟨j, hj, hji, hq⟩
      have := h3 j hji
      rw [atB_at _ hj, hq] at this
      cases this
    · intro hn
      by_cases hmi : m = i
      · rw [hmi]
      · exfalso
        by_cases hlt : m < i
        · rw [atB_at _ h1] at h2
          exact hn ⟨m, h1, hlt, h2⟩
        · have := h3 i (by omega)
          rw [atB_at _ hi, hself] at this
          cases this
  · have := h1 i hi
    rw [atB_at _ hi, hself] at this
    cases this

theorem s59 (l : List Slot) (hl : l.length < 2 ^ 63) (hp : ∀ s ∈ l, s.node.path.length < 2 ^ 63) : g59 (l.map slotc) = some (slotsOk l) := by
  rw [g59_eq, slots_len]
  unfold slotsOk
  refine ite_goal (fun h => ?_) fun h => ?_
  · rw [decide_eq_false (by simp only [CQ] at h; omega), Bool.false_and]
  · rw [decide_eq_true (by simp only [CQ] at h; omega), Bool.true_and]
    have := scan_all (F := fun k i => g59L0 k (l.map slotc) i) (n := l.length) (fin := some true) (bad := some false) (fun i => atB slot1 l i && uniqAt l i) hl 0 (by omega)
      (fun k i _ hi => by
        show g59L0 (k + 1) _ _ = _
        rw [g59L0_eq, slots_len, if_pos (lss_t hi)]
        refine (elem_slots hi _).trans ?_
        simp only [slotV, d2, d4, d8, d16]
        have hps := hp _ (List.getElem_mem hi)
        have hu : l[i].node.id = zid → uniqAt l i = true := by
          intro hz
          unfold uniqAt
          rw [List.getElem?_eq_getElem hi]
          simp only [Bool.not_eq_true', List.any_eq_false]
          intro t _
          rw [hz]
          simp [hitS]
        have h128 := s128 l hl i hi
        rw [atB_at _ hi, inc_i hi hl]
        generalize g59L0 k (l.map slotc) ((i + 1 : Nat) : Int) = X
        generalize huq : uniqAt l i = uq at *
        generalize hli : l[i] = t at *
        simp only [g127_eq, s104, s51z _ hps, s45 _ hps, Option.bind_some, zid_eqb, id_eta]
        have e2 : ((cop .eql t.lock.core 0) && ((cop .eql t.lock.op 0) && ((cop .eql t.lock.part 0) && true))) = decide (t.lock = zid) := by
          rw [bool_iff, zid_eqb, id_eta, decide_eq_true_eq]
        simp only [e2]
        by_cases hz : t.node.id = zid
        · have := hu hz
          subst this
          simp only [hz, if_true]
          repeat' split
          all_goals (simp only [slot1, opOk, hz, if_true, CQ] at * <;> grind)
        · obtain ⟨r, hr, hru⟩ := h128 hz
          simp only [hz, if_false, hr, Option.bind_some]
          repeat' split
          all_goals (simp only [slot1, opOk, hz, if_false, CQ] at * <;> grind))
      (fun k i hi => by show g59L0 (k + 1) _ _ = _; rw [g59L0_eq, slots_len, if_neg (lss_f hi)])
    refine this.trans ?_
    rw [Nat.sub_zero]
    cases (List.range' 0 l.length).all (fun i => atB slot1 l i && uniqAt l i) <;> rfl

end Go.Proofs.YtceopohbfkamiaaGreat
end

section
namespace Go.Proofs.YtceopohbfkamiaaGreat
open Go Go.AM
set_option linter.unusedSimpArgs false
set_option linter.unusedVariables false
set_option maxRecDepth 100000

theorem dec_i {j : Nat} (h : j + 1 < 2 ^ 63) : iop .sub .i64 ((j + 1 : Nat) : Int) 1 = (j : Int) := by
  rw [sub_i (by omega) (by omega)]; omega

theorem gtr_s (j : Nat) : cop .gtr ((j + 1 : Nat) : Int) 0 = true := by simp only [CQ]; omega
theorem gtr_z : cop .gtr ((0 : Nat) : Int) 0 = false := rfl

def ltId (a b : Id) : Bool := idLt a.core a.op a.part b.core b.op b.part

theorem s60 (a b c d e f : Int) : g60 a b c d e f = some (idLt a b c d e f) := by
  rw [g60_eq]
  repeat' split
  all_goals (refine congrArg some ?_; rw [bool_iff]; simp only [idLt, CQ] at *; omega)

def markOk (m : Mark) : Bool := regOk m.region && opOk m.op
def ansOk (a : Ans) : Bool := decide (1 ≤ a.op ∧ a.op ≤ 1073741824) && errOk a.err
def entOk (e : Entry) : Bool := coreOk e.core && slotOk e.slot && nodeOk e.node

def ltp : Req → Req → Bool := fun a b => ltId a.id b.id

theorem s114 (x : Req) (hx : x.src.path.length < 2 ^ 63) : g114 x.id.core x.id.op x.id.part x.call.kind x.call.slot x.call.dest x.call.core x.call.mask x.call.object x.call.bits x.call.level x.call.offset x.call.count x.call.index x.call.addr x.region x.width x.src.id.core x.src.id.op x.src.id.part (idCells x.src.path) x.src.cap.kind x.src.cap.base x.src.cap.bits x.src.cap.rights x.src.cap.width x.src.cap.level x.src.cap.device = some (!reqOk x) := by
  rw [g114_eq, s12 x hx, Option.bind_some]

theorem s165c114 (l : List Req) (hl : l.length < 2 ^ 63) (hp : ∀ x ∈ l, x.src.path.length < 2 ^ 63) : ∃ r, g165c114 (l.map reqc) = some r ∧ cop .geq r 0 = !(l.all reqOk) := by
  rw [g165c114_eq, List.length_map]
  have := scan_idx (F := fun k i => g165c114L0 k (l.map reqc) (l.length : Int) i) (n := l.length) (fun i => !atB reqOk l i) hl
    (fun k i hi => by
      show g165c114L0 (k + 1) _ _ _ = _
      rw [g165c114L0_eq, if_pos (lss_t hi)]
      refine (elem_reqs hi _).trans ?_
      simp only [reqV, d2, d4, d8, d16]
      rw [s114 l[i] (hp _ (List.getElem_mem hi)), Option.bind_some, inc_i hi hl, atB_at _ hi])
    (fun k i hi => by show g165c114L0 (k + 1) _ _ _ = _; rw [g165c114L0_eq, if_neg (lss_f hi)])
  rw [any_at] at this
  exact this

theorem s113c114 (l : List Req) (hl : l.length < 2 ^ 63) (hp : ∀ x ∈ l, x.src.path.length < 2 ^ 63) : g113c114 (l.map reqc) = some (!(l.all reqOk)) := by
  obtain ⟨r, h1, h2⟩ := s165c114 l hl hp
  rw [g113c114_eq, h1, Option.bind_some, h2]

theorem s115 (l : List Req) {j : Nat} (hj : j + 1 < l.length) : g115 (j : Int) ((j + 1 : Nat) : Int) (l.map reqc) = some (ltp l[j] l[j + 1], l.map reqc) := by
  rw [g115_eq]
  refine (elem_reqs (show j < l.length by omega) _).trans ?_
  refine (elem_reqs hj _).trans ?_
  simp only [reqV, d2, d4, d8, d16]
  rw [s116, Option.bind_some]; rfl

theorem s94c115 (l : List Req) (hl : l.length < 2 ^ 63) : g94c115 (l.length : Int) (l.map reqc) = some (ascB ltp l, l.map reqc) := by
  rw [g94c115_eq]
  have := scan_all (F := fun k i => g94c115L0 k (l.length : Int) i (l.map reqc)) (n := l.length) (fin := some (true, l.map reqc)) (bad := some (false, l.map reqc)) (prevB ltp l) hl 1 (by omega)
    (fun k i h1 hi => by
      obtain ⟨j, rfl⟩ : ∃ j, i = j + 1 := ⟨i - 1, by omega⟩
      show g94c115L0 (k + 1) _ _ _ = _
      rw [g94c115L0_eq, if_pos (lss_t hi), dec_i (by omega), s115 l hi, Option.bind_some, inc_i hi hl, prev_at _ hi]
      cases ltp l[j] l[j + 1] <;> rfl)
    (fun k i hi => by show g94c115L0 (k + 1) _ _ _ = _; rw [g94c115L0_eq, if_neg (lss_f hi)])
  rw [asc1] at this
  refine Eq.trans this ?_
  cases ascB ltp l <;> rfl

theorem s53 (l : List Req) (hl : l.length < 2 ^ 63) (hp : ∀ x ∈ l, x.src.path.length < 2 ^ 63) : g53 (l.map reqc) = some (l.all reqOk && ascB ltp l) := by
  rw [g53_eq, s113c114 l hl hp, Option.bind_some, List.length_map, s94c115 l hl, Option.bind_some]
  cases l.all reqOk <;> rfl

def ltm : Mark → Mark → Bool := fun a b => decide (a.region < b.region)

theorem s118 (x : Mark) : g118 x.region x.op.core x.op.op x.op.part = some (!markOk x) := by
  rw [g118_eq]
  simp only [s48, s47, Option.bind_some]
  repeat' split
  all_goals (refine congrArg some ?_; rw [bool_iff]; simp only [markOk, CQ] at * <;> grind)

theorem s167c118 (l : List Mark) (hl : l.length < 2 ^ 63) : ∃ r, g167c118 (l.map markc) = some r ∧ cop .geq r 0 = !(l.all markOk) := by
  rw [g167c118_eq, List.length_map]
  have := scan_idx (F := fun k i => g167c118L0 k (l.map markc) (l.length : Int) i) (n := l.length) (fun i => !atB markOk l i) hl
    (fun k i hi => by
      show g167c118L0 (k + 1) _ _ _ = _
      rw [g167c118L0_eq, if_pos (lss_t hi)]
      refine (elem_marks hi _).trans ?_
      simp only [d2, d4, d8, d16]
      rw [s118 l[i], Option.bind_some, inc_i hi hl, atB_at _ hi])
    (fun k i hi => by show g167c118L0 (k + 1) _ _ _ = _; rw [g167c118L0_eq, if_neg (lss_f hi)])
  rw [any_at] at this
  exact this

theorem s117c118 (l : List Mark) (hl : l.length < 2 ^ 63) : g117c118 (l.map markc) = some (!(l.all markOk)) := by
  obtain ⟨r, h1, h2⟩ := s167c118 l hl
  rw [g117c118_eq, h1, Option.bind_some, h2]

theorem s119 (l : List Mark) {j : Nat} (hj : j + 1 < l.length) : g119 (j : Int) ((j + 1 : Nat) : Int) (l.map markc) = some (ltm l[j] l[j + 1], l.map markc) := by
  rw [g119_eq]
  refine (elem_marks (show j < l.length by omega) _).trans ?_
  refine (elem_marks hj _).trans ?_
  simp only [d2, d4, d8, d16]
  rfl

theorem s94c119 (l : List Mark) (hl : l.length < 2 ^ 63) : g94c119 (l.length : Int) (l.map markc) = some (ascB ltm l, l.map markc) := by
  rw [g94c119_eq]
  have := scan_all (F := fun k i => g94c119L0 k (l.length : Int) i (l.map markc)) (n := l.length) (fin := some (true, l.map markc)) (bad := some (false, l.map markc)) (prevB ltm l) hl 1 (by omega)
    (fun k i h1 hi => by
      obtain ⟨j, rfl⟩ : ∃ j, i = j + 1 := ⟨i - 1, by omega⟩
      show g94c119L0 (k + 1) _ _ _ = _
      rw [g94c119L0_eq, if_pos (lss_t hi), dec_i (by omega), s119 l hi, Option.bind_some, inc_i hi hl, prev_at _ hi]
      cases ltm l[j] l[j + 1] <;> rfl)
    (fun k i hi => by show g94c119L0 (k + 1) _ _ _ = _; rw [g94c119L0_eq, if_neg (lss_f hi)])
  rw [asc1] at this
  refine Eq.trans this ?_
  cases ascB ltm l <;> rfl

theorem s54 (l : List Mark) (hl : l.length < 2 ^ 63) : g54 (l.map markc) = some (l.all markOk && ascB ltm l) := by
  rw [g54_eq, s117c118 l hl, Option.bind_some, List.length_map, s94c119 l hl, Option.bind_some]
  cases l.all markOk <;> rfl

def lta : Ans → Ans → Bool := fun a b => decide (a.op < b.op)

theorem s121 (x : Ans) : g121 x.op x.err = some (!ansOk x) := by
  rw [g121_eq]
  simp only [s86, Option.bind_some]
  repeat' split
  all_goals (refine congrArg some ?_; rw [bool_iff]; simp only [ansOk, CQ] at * <;> grind)

theorem s168c121 (l : List Ans) (hl : l.length < 2 ^ 63) : ∃ r, g168c121 (l.map ansc) = some r ∧ cop .geq r 0 = !(l.all ansOk) := by
  rw [g168c121_eq, List.length_map]
  have := scan_idx (F := fun k i => g168c121L0 k (l.map ansc) (l.length : Int) i) (n := l.length) (fun i => !atB ansOk l i) hl
    (fun k i hi => by
      show g168c121L0 (k + 1) _ _ _ = _
      rw [g168c121L0_eq, if_pos (lss_t hi)]
      refine (elem_anss hi _).trans ?_
      simp only [d2, d4, d8, d16]
      rw [s121 l[i], Option.bind_some, inc_i hi hl, atB_at _ hi])
    (fun k i hi => by show g168c121L0 (k + 1) _ _ _ = _; rw [g168c121L0_eq, if_neg (lss_f hi)])
  rw [any_at] at this
  exact this

theorem s120c121 (l : List Ans) (hl : l.length < 2 ^ 63) : g120c121 (l.map ansc) = some (!(l.all ansOk)) := by
  obtain ⟨r, h1, h2⟩ := s168c121 l hl
  rw [g120c121_eq, h1, Option.bind_some, h2]

theorem s122 (l : List Ans) {j : Nat} (hj : j + 1 < l.length) : g122 (j : Int) ((j + 1 : Nat) : Int) (l.map ansc) = some (lta l[j] l[j + 1], l.map ansc) := by
  rw [g122_eq]
  refine (elem_anss (show j < l.length by omega) _).trans ?_
  refine (elem_anss hj _).trans ?_
  simp only [d2, d4, d8, d16]
  rfl

theorem s94c122 (l : List Ans) (hl : l.length < 2 ^ 63) : g94c122 (l.length : Int) (l.map ansc) = some (ascB lta l, l.map ansc) := by
  rw [g94c122_eq]
  have := scan_all (F := fun k i => g94c122L0 k (l.length : Int) i (l.map ansc)) (n := l.length) (fin := some (true, l.map ansc)) (bad := some (false, l.map ansc)) (prevB lta l) hl 1 (by omega)
    (fun k i h1 hi => by
      obtain ⟨j, rfl⟩ : ∃ j, i = j + 1 := ⟨i - 1, by omega⟩
      show g94c122L0 (k + 1) _ _ _ = _
      rw [g94c122L0_eq, if_pos (lss_t hi), dec_i (by omega), s122 l hi, Option.bind_some, inc_i hi hl, prev_at _ hi]
      cases lta l[j] l[j + 1] <;> rfl)
    (fun k i hi => by show g94c122L0 (k + 1) _ _ _ = _; rw [g94c122L0_eq, if_neg (lss_f hi)])
  rw [asc1] at this
  refine Eq.trans this ?_
  cases ascB lta l <;> rfl

theorem s55 (l : List Ans) (hl : l.length < 2 ^ 63) : g55 (l.map ansc) = some (l.all ansOk && ascB lta l) := by
  rw [g55_eq, s120c121 l hl, Option.bind_some, List.length_map, s94c122 l hl, Option.bind_some]
  cases l.all ansOk <;> rfl

def lte : Entry → Entry → Bool := fun a b => ltId a.node.id b.node.id

theorem s124 (x : Entry) (hx : x.node.path.length < 2 ^ 63) : g124 x.core x.slot x.node.id.core x.node.id.op x.node.id.part (idCells x.node.path) x.node.cap.kind x.node.cap.base x.node.cap.bits x.node.cap.rights x.node.cap.width x.node.cap.level x.node.cap.device = some (!entOk x) := by
  rw [g124_eq]
  simp only [s32, s89, s50 _ hx, Option.bind_some]
  repeat' split
  all_goals (refine congrArg some ?_; rw [bool_iff]; simp only [entOk, CQ] at * <;> grind)

theorem s169c124 (l : List Entry) (hl : l.length < 2 ^ 63) (hp : ∀ x ∈ l, x.node.path.length < 2 ^ 63) : ∃ r, g169c124 (l.map entryc) = some r ∧ cop .geq r 0 = !(l.all entOk) := by
  rw [g169c124_eq, List.length_map]
  have := scan_idx (F := fun k i => g169c124L0 k (l.map entryc) (l.length : Int) i) (n := l.length) (fun i => !atB entOk l i) hl
    (fun k i hi => by
      show g169c124L0 (k + 1) _ _ _ = _
      rw [g169c124L0_eq, if_pos (lss_t hi)]
      refine (elem_entries hi _).trans ?_
      simp only [entryV, d2, d4, d8, d16]
      rw [s124 l[i] (hp _ (List.getElem_mem hi)), Option.bind_some, inc_i hi hl, atB_at _ hi])
    (fun k i hi => by show g169c124L0 (k + 1) _ _ _ = _; rw [g169c124L0_eq, if_neg (lss_f hi)])
  rw [any_at] at this
  exact this

theorem s123c124 (l : List Entry) (hl : l.length < 2 ^ 63) (hp : ∀ x ∈ l, x.node.path.length < 2 ^ 63) : g123c124 (l.map entryc) = some (!(l.all entOk)) := by
  obtain ⟨r, h1, h2⟩ := s169c124 l hl hp
  rw [g123c124_eq, h1, Option.bind_some, h2]

theorem s125 (l : List Entry) {j : Nat} (hj : j + 1 < l.length) : g125 (j : Int) ((j + 1 : Nat) : Int) (l.map entryc) = some (lte l[j] l[j + 1], l.map entryc) := by
  rw [g125_eq]
  refine (elem_entries (show j < l.length by omega) _).trans ?_
  refine (elem_entries hj _).trans ?_
  simp only [entryV, d2, d4, d8, d16]
  rw [s116, Option.bind_some]; rfl

theorem s94c125 (l : List Entry) (hl : l.length < 2 ^ 63) : g94c125 (l.length : Int) (l.map entryc) = some (ascB lte l, l.map entryc) := by
  rw [g94c125_eq]
  have := scan_all (F := fun k i => g94c125L0 k (l.length : Int) i (l.map entryc)) (n := l.length) (fin := some (true, l.map entryc)) (bad := some (false, l.map entryc)) (prevB lte l) hl 1 (by omega)
    (fun k i h1 hi => by
      obtain ⟨j, rfl⟩ : ∃ j, i = j + 1 := ⟨i - 1, by omega⟩
      show g94c125L0 (k + 1) _ _ _ = _
      rw [g94c125L0_eq, if_pos (lss_t hi), dec_i (by omega), s125 l hi, Option.bind_some, inc_i hi hl, prev_at _ hi]
      cases lte l[j] l[j + 1] <;> rfl)
    (fun k i hi => by show g94c125L0 (k + 1) _ _ _ = _; rw [g94c125L0_eq, if_neg (lss_f hi)])
  rw [asc1] at this
  refine Eq.trans this ?_
  cases ascB lte l <;> rfl

theorem s56 (l : List Entry) (hl : l.length < 2 ^ 63) (hp : ∀ x ∈ l, x.node.path.length < 2 ^ 63) : g56 (l.map entryc) = some (l.all entOk && ascB lte l) := by
  rw [g56_eq, s123c124 l hl hp, Option.bind_some, List.length_map, s94c125 l hl, Option.bind_some]
  cases l.all entOk <;> rfl

theorem s58 (x : Id) : g58 x.core x.op x.part = some (!opOk x) := by
  rw [g58_eq, s47, Option.bind_some]

theorem s126c58 (l : List Id) (hl : l.length < 2 ^ 63) : ∃ r, g126c58 (idCells l) = some r ∧ cop .geq r 0 = !(l.all opOk) := by
  rw [g126c58_eq, ids_len]
  have := scan_idx (F := fun k i => g126c58L0 k (idCells l) (l.length : Int) i) (n := l.length) (fun i => !atB opOk l i) hl
    (fun k i hi => by
      show g126c58L0 (k + 1) _ _ _ = _
      rw [g126c58L0_eq, if_pos (lss_t hi)]
      refine (elem_ids hi _).trans ?_
      dsimp only
      rw [s58 l[i], Option.bind_some, inc_i hi hl, atB_at _ hi])
    (fun k i hi => by show g126c58L0 (k + 1) _ _ _ = _; rw [g126c58L0_eq, if_neg (lss_f hi)])
  rw [any_at] at this
  exact this

theorem s57c58 (l : List Id) (hl : l.length < 2 ^ 63) : g57c58 (idCells l) = some (!(l.all opOk)) := by
  obtain ⟨r, h1, h2⟩ := s126c58 l hl
  rw [g57c58_eq, h1, Option.bind_some, h2]

def idsOk (ops : Bool) (i : Id) : Bool := idOk i && (!ops || decide (i.part = 0))

theorem s40 (l : List Id) (ops : Bool) (hl : l.length < 2 ^ 63) : g40 (idCells l) ops = some (l.all (idsOk ops)) := by
  rw [g40_eq]
  have := scan_all (F := fun k i => g40L0 k (idCells l) ops i) (n := l.length) (fin := some true) (bad := some false) (atB (idsOk ops) l) hl 0 (by omega)
    (fun k i _ hi => by
      show g40L0 (k + 1) _ _ _ = _
      rw [g40L0_eq, ids_len, if_pos (lss_t hi)]
      refine (elem_ids hi _).trans ?_
      dsimp only
      rw [s104, Option.bind_some, inc_i hi hl, atB_at _ hi, id_eta]
      generalize g40L0 k (idCells l) ops ((i + 1 : Nat) : Int) = X
      have e : ∀ k : (Int × Int × Int) → Option Bool, elemK (idCells l) (i : Int) [.int .i64, .int .i64, .int .i64] k = k (l[i].core, l[i].op, l[i].part) := fun k => elem_ids hi k
      simp only [e]
      generalize l[i] = t
      unfold idsOk
      repeat' split
      all_goals (simp only [CQ] at * <;> grind))
    (fun k i hi => by show g40L0 (k + 1) _ _ _ = _; rw [g40L0_eq, ids_len, if_neg (lss_f hi)])
  rw [Nat.sub_zero, all_at] at this
  refine Eq.trans this ?_
  cases l.all (idsOk ops) <;> rfl

theorem s15L0 (l : List Entry) (hl : l.length < 2 ^ 63) (hp : ∀ x ∈ l, x.node.path.length < 2 ^ 63) (x0 x1 x2 x3 x5 : List (List AV)) : g15L0 FUEL x0 x1 x2 x3 (l.map entryc) x5 0 = if (l.all entOk && ascB lte l) = true then some true else some false := by
  have := scan_all (F := fun k i => g15L0 k x0 x1 x2 x3 (l.map entryc) x5 i) (n := l.length) (fin := some true) (bad := some false) (fun i => atB entOk l i && prevB lte l i) hl 0 (by omega)
    (fun k i _ hi => by
      show g15L0 (k + 1) x0 x1 x2 x3 (l.map entryc) x5 _ = _
      rw [g15L0_eq, List.length_map, if_pos (lss_t hi)]
      refine (elem_entries hi _).trans ?_
      rw [inc_i hi hl, atB_at _ hi]
      generalize g15L0 k x0 x1 x2 x3 (l.map entryc) x5 ((i + 1 : Nat) : Int) = X
      cases i with
      | zero =>
        simp only [entryV, d2, d4, d8, d16, s37, s45 _ (hp _ (List.getElem_mem hi)), s60, Option.bind_some, gtr_z, Bool.false_eq_true, if_false, prevB, Bool.and_true]
        generalize l[0] = t
        repeat' split
        all_goals (simp only [entOk, regOk, slotOk, CQ] at * <;> grind)
      | succ j =>
        simp only [entryV, d2, d4, d8, d16, s37, s45 _ (hp _ (List.getElem_mem hi)), s60, Option.bind_some, gtr_s, if_true, dec_i (show j + 1 < 2 ^ 63 by omega), elem_entries (show j < l.length by omega), elem_entries hi, prev_at _ hi]
        generalize l[j + 1] = t
        generalize l[j] = u
        unfold lte ltId
        repeat' split
        all_goals (simp only [entOk, regOk, slotOk, CQ] at * <;> grind))
    (fun k i hi => by show g15L0 (k + 1) x0 x1 x2 x3 (l.map entryc) x5 _ = _; rw [g15L0_eq, List.length_map, if_neg (lss_f hi)])
  rw [Nat.sub_zero, both_at] at this
  exact this

theorem s15L1 (l : List Ans) (hl : l.length < 2 ^ 63) (x0 x1 x2 x4 x5 : List (List AV)) : g15L1 FUEL x0 x1 x2 (l.map ansc) x4 x5 0 = if (l.all ansOk && ascB lta l) = true then g15L0 FUEL x0 x1 x2 (l.map ansc) x4 x5 0 else some false := by
  have := scan_all (F := fun k i => g15L1 k x0 x1 x2 (l.map ansc) x4 x5 i) (n := l.length) (fin := g15L0 FUEL x0 x1 x2 (l.map ansc) x4 x5 0) (bad := some false) (fun i => atB ansOk l i && prevB lta l i) hl 0 (by omega)
    (fun k i _ hi => by
      show g15L1 (k + 1) x0 x1 x2 (l.map ansc) x4 x5 _ = _
      rw [g15L1_eq, List.length_map, if_pos (lss_t hi)]
      refine (elem_anss hi _).trans ?_
      rw [inc_i hi hl, atB_at _ hi]
      generalize g15L1 k x0 x1 x2 (l.map ansc) x4 x5 ((i + 1 : Nat) : Int) = X
      cases i with
      | zero =>
        simp only [d2, d4, d8, d16, s39, Option.bind_some, gtr_z, Bool.false_eq_true, if_false, prevB, Bool.and_true]
        generalize l[0] = t
        repeat' split
        all_goals (simp only [ansOk, regOk, slotOk, CQ] at * <;> grind)
      | succ j =>
        simp only [d2, d4, d8, d16, s39, Option.bind_some, gtr_s, if_true, dec_i (show j + 1 < 2 ^ 63 by omega), elem_anss (show j < l.length by omega), elem_anss hi, prev_at _ hi]
        generalize l[j + 1] = t
        generalize l[j] = u
        unfold lta
        repeat' split
        all_goals (simp only [ansOk, regOk, slotOk, CQ] at * <;> grind))
    (fun k i hi => by show g15L1 (k + 1) x0 x1 x2 (l.map ansc) x4 x5 _ = _; rw [g15L1_eq, List.length_map, if_neg (lss_f hi)])
  rw [Nat.sub_zero, both_at] at this
  exact this

theorem s15L2 (l : List Mark) (hl : l.length < 2 ^ 63) (x0 x1 x3 x4 x5 : List (List AV)) : g15L2 FUEL x0 x1 (l.map markc) x3 x4 x5 0 = if (l.all markOk && ascB ltm l) = true then g15L1 FUEL x0 x1 (l.map markc) x3 x4 x5 0 else some false := by
  have := scan_all (F := fun k i => g15L2 k x0 x1 (l.map markc) x3 x4 x5 i) (n := l.length) (fin := g15L1 FUEL x0 x1 (l.map markc) x3 x4 x5 0) (bad := some false) (fun i => atB markOk l i && prevB ltm l i) hl 0 (by omega)
    (fun k i _ hi => by
      show g15L2 (k + 1) x0 x1 (l.map markc) x3 x4 x5 _ = _
      rw [g15L2_eq, List.length_map, if_pos (lss_t hi)]
      refine (elem_marks hi _).trans ?_
      rw [inc_i hi hl, atB_at _ hi]
      generalize g15L2 k x0 x1 (l.map markc) x3 x4 x5 ((i + 1 : Nat) : Int) = X
      cases i with
      | zero =>
        simp only [d2, d4, d8, d16, s46, s38 l[0].op, Option.bind_some, gtr_z, Bool.false_eq_true, if_false, prevB, Bool.and_true]
        generalize l[0] = t
        repeat' split
        all_goals (simp only [markOk, regOk, slotOk, CQ] at * <;> grind)
      | succ j =>
        simp only [d2, d4, d8, d16, s46, s38 l[j + 1].op, Option.bind_some, gtr_s, if_true, dec_i (show j + 1 < 2 ^ 63 by omega), elem_marks (show j < l.length by omega), elem_marks hi, prev_at _ hi]
        generalize l[j + 1] = t
        generalize l[j] = u
        unfold ltm
        repeat' split
        all_goals (simp only [markOk, regOk, slotOk, CQ] at * <;> grind))
    (fun k i hi => by show g15L2 (k + 1) x0 x1 (l.map markc) x3 x4 x5 _ = _; rw [g15L2_eq, List.length_map, if_neg (lss_f hi)])
  rw [Nat.sub_zero, both_at] at this
  exact this

theorem s15L3 (l : List Req) (hl : l.length < 2 ^ 63) (hp : ∀ x ∈ l, x.src.path.length < 2 ^ 63) (x0 x2 x3 x4 x5 : List (List AV)) : g15L3 FUEL x0 (l.map reqc) x2 x3 x4 x5 0 = if (l.all reqOk && ascB ltp l) = true then g15L2 FUEL x0 (l.map reqc) x2 x3 x4 x5 0 else some false := by
  have := scan_all (F := fun k i => g15L3 k x0 (l.map reqc) x2 x3 x4 x5 i) (n := l.length) (fin := g15L2 FUEL x0 (l.map reqc) x2 x3 x4 x5 0) (bad := some false) (fun i => atB reqOk l i && prevB ltp l i) hl 0 (by omega)
    (fun k i _ hi => by
      show g15L3 (k + 1) x0 (l.map reqc) x2 x3 x4 x5 _ = _
      rw [g15L3_eq, List.length_map, if_pos (lss_t hi)]
      refine (elem_reqs hi _).trans ?_
      rw [inc_i hi hl, atB_at _ hi]
      generalize g15L3 k x0 (l.map reqc) x2 x3 x4 x5 ((i + 1 : Nat) : Int) = X
      cases i with
      | zero =>
        simp only [reqV, d2, d4, d8, d16, s13 _ (hp _ (List.getElem_mem hi)), s60, Option.bind_some, gtr_z, Bool.false_eq_true, if_false, prevB, Bool.and_true]
        generalize l[0] = t
        repeat' split
        all_goals (simp only [regOk, slotOk, CQ] at * <;> grind)
      | succ j =>
        simp only [reqV, d2, d4, d8, d16, s13 _ (hp _ (List.getElem_mem hi)), s60, Option.bind_some, gtr_s, if_true, dec_i (show j + 1 < 2 ^ 63 by omega), elem_reqs (show j < l.length by omega), elem_reqs hi, prev_at _ hi]
        generalize l[j + 1] = t
        generalize l[j] = u
        unfold ltp ltId
        repeat' split
        all_goals (simp only [regOk, slotOk, CQ] at * <;> grind))
    (fun k i hi => by show g15L3 (k + 1) x0 (l.map reqc) x2 x3 x4 x5 _ = _; rw [g15L3_eq, List.length_map, if_neg (lss_f hi)])
  rw [Nat.sub_zero, both_at] at this
  exact this

def stateOk (s : State) : Bool := slotsOk s.slots && (s.pending.all reqOk && ascB ltp s.pending) && (s.marks.all markOk && ascB ltm s.marks) && (s.answers.all ansOk && ascB lta s.answers) && (s.entries.all entOk && ascB lte s.entries) && s.commits.all opOk

/-- Lists as long as memory holds. -/
structure State.Fits (s : State) : Prop where
  slots : s.slots.length < 2 ^ 63
  pending : s.pending.length < 2 ^ 63
  marks : s.marks.length < 2 ^ 63
  answers : s.answers.length < 2 ^ 63
  entries : s.entries.length < 2 ^ 63
  commits : s.commits.length < 2 ^ 63
  slot : ∀ x ∈ s.slots, x.node.path.length < 2 ^ 63
  req : ∀ x ∈ s.pending, x.src.path.length < 2 ^ 63
  entry : ∀ x ∈ s.entries, x.node.path.length < 2 ^ 63

theorem s14 (s : State) (h : s.Fits) : g14 (s.slots.map slotc) (s.pending.map reqc) (s.marks.map markc) (s.answers.map ansc) (s.entries.map entryc) (idCells s.commits) = some (stateOk s) := by
  rw [g14_eq, s52 _ h.slots h.slot, Option.bind_some, s53 _ h.pending h.req, Option.bind_some, s54 _ h.marks, Option.bind_some, s55 _ h.answers, Option.bind_some, s56 _ h.entries h.entry, Option.bind_some, s57c58 _ h.commits, Option.bind_some]
  unfold stateOk
  cases slotsOk s.slots <;> cases (s.pending.all reqOk && ascB ltp s.pending) <;> cases (s.marks.all markOk && ascB ltm s.marks) <;> cases (s.answers.all ansOk && ascB lta s.answers) <;> cases (s.entries.all entOk && ascB lte s.entries) <;> cases s.commits.all opOk <;> rfl

theorem s15 (s : State) (h : s.Fits) : g15 (s.slots.map slotc) (s.pending.map reqc) (s.marks.map markc) (s.answers.map ansc) (s.entries.map entryc) (idCells s.commits) = some (stateOk s) := by
  have e : s.commits.all (idsOk true) = s.commits.all opOk := by congr
  rw [g15_eq, s59 _ h.slots h.slot, Option.bind_some, s40 _ _ h.commits, Option.bind_some, s15L3 _ h.pending h.req, s15L2 _ h.marks, s15L1 _ h.answers, s15L0 _ h.entries h.entry, e]
  unfold stateOk
  cases slotsOk s.slots <;> cases (s.pending.all reqOk && ascB ltp s.pending) <;> cases (s.marks.all markOk && ascB ltm s.marks) <;> cases (s.answers.all ansOk && ascB lta s.answers) <;> cases (s.entries.all entOk && ascB lte s.entries) <;> cases s.commits.all opOk <;> rfl

end Go.Proofs.YtceopohbfkamiaaGreat
end

section
namespace Go.Proofs.YtceopohbfkamiaaGreat
open Go Go.AM
set_option maxRecDepth 100000

theorem e9 : g9 3 1 0 2 0 1 0 0 5 0 0 false 0 0 0 0 0 0 0 0 0 0 0 0 0 0 0 0 0 0 0 0 ([] : List (List AV)) 0 0 0 0 0 0 false ([] : List (List AV)) ([] : List (List AV)) ([] : List (List AV)) ([] : List (List AV)) 0 0 ([] : List (List AV)) ([] : List (List AV)) ([] : List (List AV)) ([] : List (List AV)) ([] : List (List AV)) ([] : List (List AV)) ([] : List (List AV)) ([] : List (List AV)) 0 0 ([] : List (List AV)) ([] : List (List AV)) ([] : List (List AV)) ([] : List (List AV)) ([] : List (List AV)) ([] : List (List AV)) ([] : List (List AV)) ([] : List (List AV)) false 0 ([] : List (List AV)) ([] : List (List AV)) ([] : List (List AV)) ([] : List (List AV)) ([] : List (List AV)) ([] : List (List AV)) ([] : List (List AV)) ([] : List (List AV)) = some true := by kernel_rfl
theorem e7 : g7 3 1 0 2 0 1 0 0 5 0 0 false 0 0 0 0 0 0 0 0 0 0 0 0 0 0 0 0 0 0 0 0 ([] : List (List AV)) 0 0 0 0 0 0 false ([] : List (List AV)) ([] : List (List AV)) ([] : List (List AV)) ([] : List (List AV)) 0 0 ([] : List (List AV)) ([] : List (List AV)) ([] : List (List AV)) ([] : List (List AV)) ([] : List (List AV)) ([] : List (List AV)) ([] : List (List AV)) ([] : List (List AV)) 0 0 ([] : List (List AV)) ([] : List (List AV)) ([] : List (List AV)) ([] : List (List AV)) ([] : List (List AV)) ([] : List (List AV)) ([] : List (List AV)) ([] : List (List AV)) false 0 ([] : List (List AV)) ([] : List (List AV)) ([] : List (List AV)) ([] : List (List AV)) ([] : List (List AV)) ([] : List (List AV)) ([] : List (List AV)) ([] : List (List AV)) = some ((byteCells [3, 1, 0, 2, 1, 0, 5, 0]), 0) := by kernel_rfl
theorem e17 : g17 3 1 0 2 0 1 0 0 5 0 0 false 0 0 0 0 0 0 0 0 0 0 0 0 0 0 0 0 0 0 0 0 ([] : List (List AV)) 0 0 0 0 0 0 false ([] : List (List AV)) ([] : List (List AV)) ([] : List (List AV)) ([] : List (List AV)) 0 0 ([] : List (List AV)) ([] : List (List AV)) ([] : List (List AV)) ([] : List (List AV)) ([] : List (List AV)) ([] : List (List AV)) ([] : List (List AV)) ([] : List (List AV)) 0 0 ([] : List (List AV)) ([] : List (List AV)) ([] : List (List AV)) ([] : List (List AV)) ([] : List (List AV)) ([] : List (List AV)) ([] : List (List AV)) ([] : List (List AV)) false 0 ([] : List (List AV)) ([] : List (List AV)) ([] : List (List AV)) ([] : List (List AV)) ([] : List (List AV)) ([] : List (List AV)) ([] : List (List AV)) ([] : List (List AV)) 3 1 0 2 0 1 0 0 5 0 0 false 0 0 0 0 0 0 0 0 0 0 0 0 0 0 0 0 0 0 0 0 ([] : List (List AV)) 0 0 0 0 0 0 false ([] : List (List AV)) ([] : List (List AV)) ([] : List (List AV)) ([] : List (List AV)) 0 0 ([] : List (List AV)) ([] : List (List AV)) ([] : List (List AV)) ([] : List (List AV)) ([] : List (List AV)) ([] : List (List AV)) ([] : List (List AV)) ([] : List (List AV)) 0 0 ([] : List (List AV)) ([] : List (List AV)) ([] : List (List AV)) ([] : List (List AV)) ([] : List (List AV)) ([] : List (List AV)) ([] : List (List AV)) ([] : List (List AV)) false 0 ([] : List (List AV)) ([] : List (List AV)) ([] : List (List AV)) ([] : List (List AV)) ([] : List (List AV)) ([] : List (List AV)) ([] : List (List AV)) ([] : List (List AV)) = some true := by kernel_rfl
theorem e16 : g16 (byteCells [3, 1, 0, 2, 1, 0, 5, 0]) = some (3, 1, 0, 2, 0, 1, 0, 0, 5, 0, 0, false, 0, 0, 0, 0, 0, 0, 0, 0, 0, 0, 0, 0, 0, 0, 0, 0, 0, 0, 0, 0, ([] : List (List AV)), 0, 0, 0, 0, 0, 0, false, ([] : List (List AV)), ([] : List (List AV)), ([] : List (List AV)), ([] : List (List AV)), 0, 0, ([] : List (List AV)), ([] : List (List AV)), ([] : List (List AV)), ([] : List (List AV)), ([] : List (List AV)), ([] : List (List AV)), ([] : List (List AV)), ([] : List (List AV)), 0, 0, ([] : List (List AV)), ([] : List (List AV)), ([] : List (List AV)), ([] : List (List AV)), ([] : List (List AV)), ([] : List (List AV)), ([] : List (List AV)), ([] : List (List AV)), false, 0, ([] : List (List AV)), ([] : List (List AV)), ([] : List (List AV)), ([] : List (List AV)), ([] : List (List AV)), ([] : List (List AV)), ([] : List (List AV)), ([] : List (List AV)), 0) := by kernel_rfl

theorem s6 : g6 = some true := by
  rw [g6_eq, e7, Option.bind_some]
  dsimp only
  rw [e16, Option.bind_some]
  dsimp only [d2, d4, d8, d16]
  rw [e17, e9]
  refine ite_goal (fun _ => ?_) fun h => absurd (by decide) h
  refine ite_goal (fun _ => ?_) fun h => absurd (by decide) h
  refine req_goal (of_decide_eq_true (by kernel_rfl)) ?_
  refine ite_goal (fun _ => rfl) fun h => absurd (by rw [ByteArray.toList_eq, ByteArray.toList_eq]; decide) h

end Go.Proofs.YtceopohbfkamiaaGreat
end

section
namespace Go.Proofs.YtceopohbfkamiaaGreat
open Go Go.AM
set_option linter.unusedSimpArgs false
set_option linter.unusedVariables false
set_option maxRecDepth 100000

theorem scan_tot {γ : Type} {F : Nat → Int → Int → Option γ} {n : Nat} (hn : n < 2 ^ 63)
    (step : ∀ (k : Nat) (acc : Int) (i : Nat), i < n → ∃ acc', F (k + 1) acc (i : Int) = F k acc' ((i + 1 : Nat) : Int))
    (last : ∀ (k : Nat) (acc : Int) (i : Nat), n ≤ i → ∃ r, F (k + 1) acc (i : Int) = some r) (acc : Int) : ∃ r, F FUEL acc 0 = some r := by
  have key : ∀ (j : Nat) (acc : Int) (i fuel : Nat), n ≤ i + j → j < fuel → ∃ r, F fuel acc (i : Int) = some r := by
    intro j
    induction j with
    | zero =>
      intro acc i fuel h hf
      obtain ⟨f, rfl⟩ : ∃ f, fuel = f + 1 := ⟨fuel - 1, by omega⟩
      exact last f acc i (by omega)
    | succ j ih =>
      intro acc i fuel h hf
      obtain ⟨f, rfl⟩ : ∃ f, fuel = f + 1 := ⟨fuel - 1, by omega⟩
      by_cases hi : i < n
      · obtain ⟨acc', h'⟩ := step f acc i hi
        rw [h']
        exact ih acc' (i + 1) f (by omega) (by omega)
      · exact last f acc i (by omega)
  exact key n acc 0 FUEL (by omega) (by have := fuel63 hn; omega)

theorem s11 (s : State) (h : s.Fits) : ∃ b, g11 (s.slots.map slotc) (s.pending.map reqc) (s.marks.map markc) (s.answers.map ansc) (s.entries.map entryc) (idCells s.commits) = some b := by
  have l0 : ∀ acc, ∃ b, g11L0 FUEL (s.slots.map slotc) (s.pending.map reqc) (s.marks.map markc) (s.answers.map ansc) (s.entries.map entryc) (idCells s.commits) acc 0 = some b := by
    intro acc
    refine scan_tot (F := fun k acc i => g11L0 k (s.slots.map slotc) (s.pending.map reqc) (s.marks.map markc) (s.answers.map ansc) (s.entries.map entryc) (idCells s.commits) acc i) h.entries (fun k acc i hi => ?_) (fun k acc i hi => ?_) acc
    · refine ⟨iop .add .i64 acc (List.length (idCells s.entries[i].node.path) : Int), ?_⟩
      show g11L0 (k + 1) _ _ _ _ _ _ _ _ = _
      rw [g11L0_eq, List.length_map, if_pos (lss_t hi)]
      refine (elem_entries hi _).trans ?_
      simp only [entryV, reqV, slotV, d2, d4, d8, d16]
      rw [inc_i hi h.entries]
    · show ∃ r, g11L0 (k + 1) _ _ _ _ _ _ _ _ = some r
      rw [g11L0_eq, List.length_map, if_neg (lss_f hi)]
      exact ⟨_, rfl⟩
  have l1 : ∀ acc, ∃ b, g11L1 FUEL (s.slots.map slotc) (s.pending.map reqc) (s.marks.map markc) (s.answers.map ansc) (s.entries.map entryc) (idCells s.commits) acc 0 = some b := by
    intro acc
    refine scan_tot (F := fun k acc i => g11L1 k (s.slots.map slotc) (s.pending.map reqc) (s.marks.map markc) (s.answers.map ansc) (s.entries.map entryc) (idCells s.commits) acc i) h.pending (fun k acc i hi => ?_) (fun k acc i hi => ?_) acc
    · refine ⟨iop .add .i64 acc (List.length (idCells s.pending[i].src.path) : Int), ?_⟩
      show g11L1 (k + 1) _ _ _ _ _ _ _ _ = _
      rw [g11L1_eq, List.length_map, if_pos (lss_t hi)]
      refine (elem_reqs hi _).trans ?_
      simp only [entryV, reqV, slotV, d2, d4, d8, d16]
      rw [inc_i hi h.pending]
    · show ∃ r, g11L1 (k + 1) _ _ _ _ _ _ _ _ = some r
      rw [g11L1_eq, List.length_map, if_neg (lss_f hi)]
      exact l0 acc
  have l2 : ∀ acc, ∃ b, g11L2 FUEL (s.slots.map slotc) (s.pending.map reqc) (s.marks.map markc) (s.answers.map ansc) (s.entries.map entryc) (idCells s.commits) acc 0 = some b := by
    intro acc
    refine scan_tot (F := fun k acc i => g11L2 k (s.slots.map slotc) (s.pending.map reqc) (s.marks.map markc) (s.answers.map ansc) (s.entries.map entryc) (idCells s.commits) acc i) h.slots (fun k acc i hi => ?_) (fun k acc i hi => ?_) acc
    · refine ⟨iop .add .i64 acc (List.length (idCells s.slots[i].node.path) : Int), ?_⟩
      show g11L2 (k + 1) _ _ _ _ _ _ _ _ = _
      rw [g11L2_eq, List.length_map, if_pos (lss_t hi)]
      refine (elem_slots hi _).trans ?_
      simp only [entryV, reqV, slotV, d2, d4, d8, d16]
      rw [inc_i hi h.slots]
    · show ∃ r, g11L2 (k + 1) _ _ _ _ _ _ _ _ = some r
      rw [g11L2_eq, List.length_map, if_neg (lss_f hi)]
      exact l1 acc
  rw [g11_eq]
  split
  · exact ⟨_, rfl⟩
  · exact l2 _

theorem s4 (r : Req) (hr : r.src.path.length < 2 ^ 63) (s : State) (hs : s.Fits) : g4 r.id.core r.id.op r.id.part r.call.kind r.call.slot r.call.dest r.call.core r.call.mask r.call.object r.call.bits r.call.level r.call.offset r.call.count r.call.index r.call.addr r.region r.width r.src.id.core r.src.id.op r.src.id.part (idCells r.src.path) r.src.cap.kind r.src.cap.base r.src.cap.bits r.src.cap.rights r.src.cap.width r.src.cap.level r.src.cap.device (s.slots.map slotc) (s.pending.map reqc) (s.marks.map markc) (s.answers.map ansc) (s.entries.map entryc) (idCells s.commits) = some true := by
  obtain ⟨b, hb⟩ := s11 s hs
  rw [g4_eq, s6, hb]
  refine ite_goal (fun _ => rfl) fun _ => ?_
  rw [Option.bind_some]
  refine ite_goal (fun _ => rfl) fun _ => ?_
  rw [s12 r hr, Option.bind_some, s13 r hr, Option.bind_some, if_pos (beq_self_eq_true _), s14 s hs, Option.bind_some, s15 s hs, Option.bind_some, if_pos (beq_self_eq_true _)]
  rfl

/-! the arguments -/
theorem ty_call {d : Nat} {cs : List AV} (h : TyR Tryz.prog (d + 2) 26 cs) : ∃ c : Call, cs = callc c := by
  rw [TyR] at h
  simp only [Tryz.underlying26] at h
  obtain ⟨ps, rfl, hl, hp⟩ := h
  obtain ⟨p0, p1, p2, p3, p4, p5, p6, p7, p8, p9, p10, p11, rfl⟩ : ∃ p0 p1 p2 p3 p4 p5 p6 p7 p8 p9 p10 p11, ps = [p0, p1, p2, p3, p4, p5, p6, p7, p8, p9, p10, p11] := by
    match ps, hl with
    | [p0, p1, p2, p3, p4, p5, p6, p7, p8, p9, p10, p11], _ => exact ⟨p0, p1, p2, p3, p4, p5, p6, p7, p8, p9, p10, p11, rfl⟩
  obtain ⟨z0, rfl⟩ := ty_int (hp 0 _ _ rfl rfl)
  obtain ⟨z1, rfl⟩ := ty_int (hp 1 _ _ rfl rfl)
  obtain ⟨z2, rfl⟩ := ty_int (hp 2 _ _ rfl rfl)
  obtain ⟨z3, rfl⟩ := ty_int (hp 3 _ _ rfl rfl)
  obtain ⟨z4, rfl⟩ := ty_int (hp 4 _ _ rfl rfl)
  obtain ⟨z5, rfl⟩ := ty_int (hp 5 _ _ rfl rfl)
  obtain ⟨z6, rfl⟩ := ty_int (hp 6 _ _ rfl rfl)
  obtain ⟨z7, rfl⟩ := ty_int (hp 7 _ _ rfl rfl)
  obtain ⟨z8, rfl⟩ := ty_int (hp 8 _ _ rfl rfl)
  obtain ⟨z9, rfl⟩ := ty_int (hp 9 _ _ rfl rfl)
  obtain ⟨z10, rfl⟩ := ty_int (hp 10 _ _ rfl rfl)
  obtain ⟨z11, rfl⟩ := ty_int (hp 11 _ _ rfl rfl)
  exact ⟨⟨z0, z1, z2, z3, z4, z5, z6, z7, z8, z9, z10, z11⟩, rfl⟩

theorem ty_err {d : Nat} {cs : List AV} (h : TyR Tryz.prog (d + 1) 24 cs) : ∃ z, cs = [I z] := by
  simp only [TyR, Tryz.underlying24] at h
  obtain ⟨z, h, _⟩ := h
  exact ⟨z, h⟩

theorem le63 {n : Nat} (h : n ≤ maxLen) : n < 2 ^ 63 := by
  have : maxLen + 1 = 2 ^ 63 := by decide
  omega

theorem ty_node {d : Nat} {cs : List AV} (h : TyR Tryz.prog (d + 4) 31 cs) : ∃ n : Node, cs = nodec n ∧ n.path.length < 2 ^ 63 := by
  rw [TyR] at h
  simp only [Tryz.underlying31] at h
  obtain ⟨ps, rfl, hl, hp⟩ := h
  obtain ⟨p0, p1, p2, rfl⟩ : ∃ p0 p1 p2, ps = [p0, p1, p2] := by
    match ps, hl with
    | [p0, p1, p2], _ => exact ⟨p0, p1, p2, rfl⟩
  obtain ⟨i, rfl⟩ := ty_id (hp 0 _ _ rfl rfl)
  obtain ⟨l, rfl, hl2⟩ := ty_ids (hp 1 _ _ rfl rfl)
  obtain ⟨k, b, s, r, w, lv, dv, rfl⟩ := ty_cap (hp 2 _ _ rfl rfl)
  exact ⟨⟨i, l, ⟨k, b, s, r, w, lv, dv⟩⟩, rfl, le63 hl2⟩

theorem ty_req {d : Nat} {cs : List AV} (h : TyR Tryz.prog (d + 5) 33 cs) : ∃ r : Req, cs = reqc r ∧ r.src.path.length < 2 ^ 63 := by
  rw [TyR] at h
  simp only [Tryz.underlying33] at h
  obtain ⟨ps, rfl, hl, hp⟩ := h
  obtain ⟨p0, p1, p2, p3, p4, rfl⟩ : ∃ p0 p1 p2 p3 p4, ps = [p0, p1, p2, p3, p4] := by
    match ps, hl with
    | [p0, p1, p2, p3, p4], _ => exact ⟨p0, p1, p2, p3, p4, rfl⟩
  obtain ⟨i, rfl⟩ := ty_id (hp 0 _ _ rfl rfl)
  obtain ⟨c, rfl⟩ := ty_call (hp 1 _ _ rfl rfl)
  obtain ⟨a, rfl⟩ := ty_int (hp 2 _ _ rfl rfl)
  obtain ⟨b, rfl⟩ := ty_int (hp 3 _ _ rfl rfl)
  obtain ⟨n, rfl, hn⟩ := ty_node (hp 4 _ _ rfl rfl)
  exact ⟨⟨i, c, a, b, n⟩, rfl, hn⟩

theorem ty_slot {d : Nat} {cs : List AV} (h : TyR Tryz.prog (d + 5) 95 cs) : ∃ s : Slot, cs = slotc s ∧ s.node.path.length < 2 ^ 63 := by
  rw [TyR] at h
  simp only [Tryz.underlying95] at h
  obtain ⟨ps, rfl, hl, hp⟩ := h
  obtain ⟨p0, p1, p2, rfl⟩ : ∃ p0 p1 p2, ps = [p0, p1, p2] := by
    match ps, hl with
    | [p0, p1, p2], _ => exact ⟨p0, p1, p2, rfl⟩
  obtain ⟨n, rfl, hn⟩ := ty_node (hp 0 _ _ rfl rfl)
  obtain ⟨a, rfl⟩ := ty_int (hp 1 _ _ rfl rfl)
  obtain ⟨i, rfl⟩ := ty_id (hp 2 _ _ rfl rfl)
  exact ⟨⟨n, a, i⟩, rfl, hn⟩

theorem ty_entry {d : Nat} {cs : List AV} (h : TyR Tryz.prog (d + 5) 97 cs) : ∃ s : Entry, cs = entryc s ∧ s.node.path.length < 2 ^ 63 := by
  rw [TyR] at h
  simp only [Tryz.underlying97] at h
  obtain ⟨ps, rfl, hl, hp⟩ := h
  obtain ⟨p0, p1, p2, rfl⟩ : ∃ p0 p1 p2, ps = [p0, p1, p2] := by
    match ps, hl with
    | [p0, p1, p2], _ => exact ⟨p0, p1, p2, rfl⟩
  obtain ⟨a, rfl⟩ := ty_int (hp 0 _ _ rfl rfl)
  obtain ⟨b, rfl⟩ := ty_int (hp 1 _ _ rfl rfl)
  obtain ⟨n, rfl, hn⟩ := ty_node (hp 2 _ _ rfl rfl)
  exact ⟨⟨a, b, n⟩, rfl, hn⟩

theorem ty_mark {d : Nat} {cs : List AV} (h : TyR Tryz.prog (d + 5) 107 cs) : ∃ m : Mark, cs = markc m := by
  rw [TyR] at h
  simp only [Tryz.underlying107] at h
  obtain ⟨ps, rfl, hl, hp⟩ := h
  obtain ⟨p0, p1, rfl⟩ : ∃ p0 p1, ps = [p0, p1] := by
    match ps, hl with
    | [p0, p1], _ => exact ⟨p0, p1, rfl⟩
  obtain ⟨a, rfl⟩ := ty_int (hp 0 _ _ rfl rfl)
  obtain ⟨i, rfl⟩ := ty_id (hp 1 _ _ rfl rfl)
  exact ⟨⟨a, i⟩, rfl⟩

theorem ty_ans {d : Nat} {cs : List AV} (h : TyR Tryz.prog (d + 5) 109 cs) : ∃ m : Ans, cs = ansc m := by
  rw [TyR] at h
  simp only [Tryz.underlying109] at h
  obtain ⟨ps, rfl, hl, hp⟩ := h
  obtain ⟨p0, p1, rfl⟩ : ∃ p0 p1, ps = [p0, p1] := by
    match ps, hl with
    | [p0, p1], _ => exact ⟨p0, p1, rfl⟩
  obtain ⟨a, rfl⟩ := ty_int (hp 0 _ _ rfl rfl)
  obtain ⟨b, rfl⟩ := ty_err (hp 1 _ _ rfl rfl)
  exact ⟨⟨a, b⟩, rfl⟩

theorem cells95 : Tryz.prog.cellsOf 95 = 15 := by kernel_rfl
theorem cells33 : Tryz.prog.cellsOf 33 = 28 := by kernel_rfl
theorem cells107 : Tryz.prog.cellsOf 107 = 4 := by kernel_rfl
theorem cells109 : Tryz.prog.cellsOf 109 = 2 := by kernel_rfl
theorem cells97 : Tryz.prog.cellsOf 97 = 13 := by kernel_rfl

theorem ty_slots {d : Nat} {cs : List AV} (h : TyR Tryz.prog (d + 6) 39 cs) : ∃ l : List Slot, cs = [.slice false 15 (l.map slotc)] ∧ l.length < 2 ^ 63 ∧ ∀ x ∈ l, x.node.path.length < 2 ^ 63 := by
  rw [TyR] at h
  simp only [Tryz.underlying39, cells95] at h
  obtain ⟨xs, h1, h2, h3⟩ := h
  obtain ⟨l, rfl, h5⟩ := list_lift (f := slotc) (p := fun x => x.node.path.length < 2 ^ 63) xs fun y hy => ty_slot (h3 y hy)
  exact ⟨l, h1, le63 (by simpa using h2), h5⟩

theorem ty_reqs {d : Nat} {cs : List AV} (h : TyR Tryz.prog (d + 6) 40 cs) : ∃ l : List Req, cs = [.slice false 28 (l.map reqc)] ∧ l.length < 2 ^ 63 ∧ ∀ x ∈ l, x.src.path.length < 2 ^ 63 := by
  rw [TyR] at h
  simp only [Tryz.underlying40, cells33] at h
  obtain ⟨xs, h1, h2, h3⟩ := h
  obtain ⟨l, rfl, h5⟩ := list_lift (f := reqc) (p := fun x => x.src.path.length < 2 ^ 63) xs fun y hy => ty_req (h3 y hy)
  exact ⟨l, h1, le63 (by simpa using h2), h5⟩

theorem ty_entries {d : Nat} {cs : List AV} (h : TyR Tryz.prog (d + 6) 43 cs) : ∃ l : List Entry, cs = [.slice false 13 (l.map entryc)] ∧ l.length < 2 ^ 63 ∧ ∀ x ∈ l, x.node.path.length < 2 ^ 63 := by
  rw [TyR] at h
  simp only [Tryz.underlying43, cells97] at h
  obtain ⟨xs, h1, h2, h3⟩ := h
  obtain ⟨l, rfl, h5⟩ := list_lift (f := entryc) (p := fun x => x.node.path.length < 2 ^ 63) xs fun y hy => ty_entry (h3 y hy)
  exact ⟨l, h1, le63 (by simpa using h2), h5⟩

theorem ty_marks {d : Nat} {cs : List AV} (h : TyR Tryz.prog (d + 6) 41 cs) : ∃ l : List Mark, cs = [.slice false 4 (l.map markc)] ∧ l.length < 2 ^ 63 := by
  rw [TyR] at h
  simp only [Tryz.underlying41, cells107] at h
  obtain ⟨xs, h1, h2, h3⟩ := h
  obtain ⟨l, rfl, h5⟩ := list_lift (f := markc) (p := fun _ => True) xs fun y hy => (ty_mark (h3 y hy)).elim fun a h => ⟨a, h, trivial⟩
  exact ⟨l, h1, le63 (by simpa using h2)⟩

theorem ty_anss {d : Nat} {cs : List AV} (h : TyR Tryz.prog (d + 6) 42 cs) : ∃ l : List Ans, cs = [.slice false 2 (l.map ansc)] ∧ l.length < 2 ^ 63 := by
  rw [TyR] at h
  simp only [Tryz.underlying42, cells109] at h
  obtain ⟨xs, h1, h2, h3⟩ := h
  obtain ⟨l, rfl, h5⟩ := list_lift (f := ansc) (p := fun _ => True) xs fun y hy => (ty_ans (h3 y hy)).elim fun a h => ⟨a, h, trivial⟩
  exact ⟨l, h1, le63 (by simpa using h2)⟩

def statec (s : State) : List AV := [.slice false 15 (s.slots.map slotc), .slice false 28 (s.pending.map reqc), .slice false 4 (s.marks.map markc), .slice false 2 (s.answers.map ansc), .slice false 13 (s.entries.map entryc), .slice false 3 (idCells s.commits)]

theorem ty_state {d : Nat} {cs : List AV} (h : TyR Tryz.prog (d + 7) 45 cs) : ∃ s : State, cs = statec s ∧ s.Fits := by
  rw [TyR] at h
  simp only [Tryz.underlying45] at h
  obtain ⟨ps, rfl, hl, hp⟩ := h
  obtain ⟨p0, p1, p2, p3, p4, p5, rfl⟩ : ∃ p0 p1 p2 p3 p4 p5, ps = [p0, p1, p2, p3, p4, p5] := by
    match ps, hl with
    | [p0, p1, p2, p3, p4, p5], _ => exact ⟨p0, p1, p2, p3, p4, p5, rfl⟩
  obtain ⟨a, rfl, a1, a2⟩ := ty_slots (hp 0 _ _ rfl rfl)
  obtain ⟨b, rfl, b1, b2⟩ := ty_reqs (hp 1 _ _ rfl rfl)
  obtain ⟨c, rfl, c1⟩ := ty_marks (hp 2 _ _ rfl rfl)
  obtain ⟨d, rfl, d1⟩ := ty_anss (hp 3 _ _ rfl rfl)
  obtain ⟨e, rfl, e1, e2⟩ := ty_entries (hp 4 _ _ rfl rfl)
  obtain ⟨f, rfl, f1⟩ := ty_ids (hp 5 _ _ rfl rfl)
  exact ⟨⟨a, b, c, d, e, f⟩, rfl, ⟨a1, b1, c1, d1, e1, le63 f1, a2, b2, e2⟩⟩

theorem arg_req {x : AV} (h : ArgTy Tryz.prog 12 33 x) : ∃ r : Req, x = .agg (reqc r) ∧ r.src.path.length < 2 ^ 63 := by
  simp only [ArgTy, Tryz.underlying33] at h
  obtain ⟨cs, rfl, h⟩ := h
  obtain ⟨r, rfl, hr⟩ := ty_req h
  exact ⟨r, rfl, hr⟩

theorem arg_state {x : AV} (h : ArgTy Tryz.prog 12 45 x) : ∃ s : State, x = .agg (statec s) ∧ s.Fits := by
  simp only [ArgTy, Tryz.underlying45] at h
  obtain ⟨cs, rfl, h⟩ := h
  obtain ⟨r, rfl, hr⟩ := ty_state h
  exact ⟨r, rfl, hr⟩

end Go.Proofs.YtceopohbfkamiaaGreat
end

section
namespace Go.Proofs.YtceopohbfkamiaaGreat
open Go Go.AM
set_option linter.unusedSimpArgs false
set_option linter.unusedVariables false
set_option maxRecDepth 100000

theorem ints_len (l : List Int) : (intCells l).length = l.length := by simp [intCells]
theorem ints_take (l : List Int) (n : Nat) : (intCells l).take n = intCells (l.take n) := by simp [intCells, List.map_take]
def numOk (z : Int) : Bool := decide (0 ≤ z ∧ z ≤ 1073741824)
def moveOk (m : Move) : Bool := regOk m.region && coreOk m.to

theorem s31 (z : Int) : g31 z = some (numOk z) := by
  rw [g31_eq]
  repeat' split
  all_goals (refine congrArg some ?_; rw [bool_iff]; simp only [numOk, CQ] at *; omega)

theorem s36 (z : Int) : g36 z = some (numOk z) := by
  rw [g36_eq]
  repeat' split
  all_goals (refine congrArg some ?_; rw [bool_iff]; simp only [numOk, CQ] at *; omega)

theorem s88 (x : Node) (hx : x.path.length < 2 ^ 63) : g88 x.id.core x.id.op x.id.part (idCells x.path) x.cap.kind x.cap.base x.cap.bits x.cap.rights x.cap.width x.cap.level x.cap.device = some (!nodeOk x) := by
  rw [g88_eq, s50 x hx, Option.bind_some]

theorem s150c88 (l : List Node) (hl : l.length < 2 ^ 63) (hp : ∀ x ∈ l, x.path.length < 2 ^ 63) : ∃ r, g150c88 (l.map nodec) = some r ∧ cop .geq r 0 = !(l.all nodeOk) := by
  rw [g150c88_eq, List.length_map]
  have := scan_idx (F := fun k i => g150c88L0 k (l.map nodec) (l.length : Int) i) (n := l.length) (fun i => !atB nodeOk l i) hl
    (fun k i hi => by
      show g150c88L0 (k + 1) _ _ _ = _
      rw [g150c88L0_eq, if_pos (lss_t hi)]
      refine (elem_nodes hi _).trans ?_
      simp only [nodeV, d2, d4, d8, d16]
      rw [s88 l[i] (hp _ (List.getElem_mem hi)), Option.bind_some, inc_i hi hl, atB_at _ hi])
    (fun k i hi => by show g150c88L0 (k + 1) _ _ _ = _; rw [g150c88L0_eq, if_neg (lss_f hi)])
  rw [any_at] at this
  exact this

theorem s87c88 (l : List Node) (hl : l.length < 2 ^ 63) (hp : ∀ x ∈ l, x.path.length < 2 ^ 63) : g87c88 (l.map nodec) = some (!(l.all nodeOk)) := by
  obtain ⟨r, h1, h2⟩ := s150c88 l hl hp
  rw [g87c88_eq, h1, Option.bind_some, h2]

theorem s90 (x : Id) : g90 x.core x.op x.part = some (!idOk x) := by
  rw [g90_eq, s91, Option.bind_some, id_eta]

theorem s126c90 (l : List Id) (hl : l.length < 2 ^ 63) : ∃ r, g126c90 (idCells l) = some r ∧ cop .geq r 0 = !(l.all idOk) := by
  rw [g126c90_eq, ids_len]
  have := scan_idx (F := fun k i => g126c90L0 k (idCells l) (l.length : Int) i) (n := l.length) (fun i => !atB idOk l i) hl
    (fun k i hi => by
      show g126c90L0 (k + 1) _ _ _ = _
      rw [g126c90L0_eq, if_pos (lss_t hi)]
      refine (elem_ids hi _).trans ?_
      dsimp only
      rw [s90 l[i], Option.bind_some, inc_i hi hl, atB_at _ hi])
    (fun k i hi => by show g126c90L0 (k + 1) _ _ _ = _; rw [g126c90L0_eq, if_neg (lss_f hi)])
  rw [any_at] at this
  exact this

theorem s57c90 (l : List Id) (hl : l.length < 2 ^ 63) : g57c90 (idCells l) = some (!(l.all idOk)) := by
  obtain ⟨r, h1, h2⟩ := s126c90 l hl
  rw [g57c90_eq, h1, Option.bind_some, h2]

theorem s93 (x : Int) : g93 x = some (!coreOk x) := by
  rw [g93_eq, s32, Option.bind_some]

theorem s151c93 (l : List Int) (hl : l.length < 2 ^ 63) : ∃ r, g151c93 (intCells l) = some r ∧ cop .geq r 0 = !(l.all coreOk) := by
  rw [g151c93_eq, ints_len]
  have := scan_idx (F := fun k i => g151c93L0 k (intCells l) (l.length : Int) i) (n := l.length) (fun i => !atB coreOk l i) hl
    (fun k i hi => by
      show g151c93L0 (k + 1) _ _ _ = _
      rw [g151c93L0_eq, if_pos (lss_t hi)]
      refine (elem_ints hi _).trans ?_
      skip
      rw [s93 l[i], Option.bind_some, inc_i hi hl, atB_at _ hi])
    (fun k i hi => by show g151c93L0 (k + 1) _ _ _ = _; rw [g151c93L0_eq, if_neg (lss_f hi)])
  rw [any_at] at this
  exact this

theorem s92c93 (l : List Int) (hl : l.length < 2 ^ 63) : g92c93 (intCells l) = some (!(l.all coreOk)) := by
  obtain ⟨r, h1, h2⟩ := s151c93 l hl
  rw [g92c93_eq, h1, Option.bind_some, h2]

theorem s153 (x : Int) : g153 x = some (!coreOk x) := by
  rw [g153_eq, s32, Option.bind_some]

theorem s151c153 (l : List Int) (hl : l.length < 2 ^ 63) : ∃ r, g151c153 (intCells l) = some r ∧ cop .geq r 0 = !(l.all coreOk) := by
  rw [g151c153_eq, ints_len]
  have := scan_idx (F := fun k i => g151c153L0 k (intCells l) (l.length : Int) i) (n := l.length) (fun i => !atB coreOk l i) hl
    (fun k i hi => by
      show g151c153L0 (k + 1) _ _ _ = _
      rw [g151c153L0_eq, if_pos (lss_t hi)]
      refine (elem_ints hi _).trans ?_
      skip
      rw [s153 l[i], Option.bind_some, inc_i hi hl, atB_at _ hi])
    (fun k i hi => by show g151c153L0 (k + 1) _ _ _ = _; rw [g151c153L0_eq, if_neg (lss_f hi)])
  rw [any_at] at this
  exact this

theorem s92c153 (l : List Int) (hl : l.length < 2 ^ 63) : g92c153 (intCells l) = some (!(l.all coreOk)) := by
  obtain ⟨r, h1, h2⟩ := s151c153 l hl
  rw [g92c153_eq, h1, Option.bind_some, h2]

theorem s99 (x : Move) : g99 x.region x.to = some (!moveOk x) := by
  rw [g99_eq, s48, s32, Option.bind_some, Option.bind_some]
  unfold moveOk
  cases regOk x.region <;> rfl

theorem s154c99 (l : List Move) (hl : l.length < 2 ^ 63) : ∃ r, g154c99 (l.map movec) = some r ∧ cop .geq r 0 = !(l.all moveOk) := by
  rw [g154c99_eq, List.length_map]
  have := scan_idx (F := fun k i => g154c99L0 k (l.map movec) (l.length : Int) i) (n := l.length) (fun i => !atB moveOk l i) hl
    (fun k i hi => by
      show g154c99L0 (k + 1) _ _ _ = _
      rw [g154c99L0_eq, if_pos (lss_t hi)]
      refine (elem_moves hi _).trans ?_
      dsimp only
      rw [s99 l[i], Option.bind_some, inc_i hi hl, atB_at _ hi])
    (fun k i hi => by show g154c99L0 (k + 1) _ _ _ = _; rw [g154c99L0_eq, if_neg (lss_f hi)])
  rw [any_at] at this
  exact this

theorem s98c99 (l : List Move) (hl : l.length < 2 ^ 63) : g98c99 (l.map movec) = some (!(l.all moveOk)) := by
  obtain ⟨r, h1, h2⟩ := s154c99 l hl
  rw [g98c99_eq, h1, Option.bind_some, h2]

def ltI (a b : Int) : Bool := decide (a < b)
def coresOk (l : List Int) : Bool := l.all coreOk && ascB ltI l

theorem s41 (l : List Int) (hl : l.length < 2 ^ 63) : g41 (intCells l) = some (coresOk l) := by
  rw [g41_eq]
  have := scan_all (F := fun k i => g41L0 k (intCells l) i) (n := l.length) (fin := some true) (bad := some false) (fun i => atB coreOk l i && prevB ltI l i) hl 0 (by omega)
    (fun k i _ hi => by
      show g41L0 (k + 1) (intCells l) _ = _
      rw [g41L0_eq, ints_len, if_pos (lss_t hi)]
      refine (elem_ints hi _).trans ?_
      rw [inc_i hi hl, atB_at _ hi]
      generalize g41L0 k (intCells l) ((i + 1 : Nat) : Int) = X
      cases i with
      | zero =>
        simp only [s37, Option.bind_some, gtr_z, Bool.false_eq_true, if_false, prevB, Bool.and_true]
        cases coreOk l[0] <;> rfl
      | succ j =>
        simp only [s37, Option.bind_some, gtr_s, if_true, dec_i (show j + 1 < 2 ^ 63 by omega), elem_ints (show j < l.length by omega), elem_ints hi, prev_at _ hi]
        generalize l[j + 1] = t
        generalize l[j] = u
        unfold ltI
        repeat' split
        all_goals (simp only [CQ] at * <;> grind))
    (fun k i hi => by show g41L0 (k + 1) (intCells l) _ = _; rw [g41L0_eq, ints_len, if_neg (lss_f hi)])
  rw [Nat.sub_zero, both_at] at this
  refine Eq.trans this ?_
  unfold coresOk
  cases (l.all coreOk && ascB ltI l) <;> rfl

theorem s44 (l : List Move) (hl : l.length < 2 ^ 63) : g44 (l.map movec) = some (l.all moveOk && decide (l.length ≤ 16)) := by
  rw [g44_eq]
  have := scan_all (F := fun k i => g44L0 k (l.map movec) i) (n := l.length) (fin := some (cop .leq (l.length : Int) 16)) (bad := some false) (atB moveOk l) hl 0 (by omega)
    (fun k i _ hi => by
      show g44L0 (k + 1) (l.map movec) _ = _
      rw [g44L0_eq, List.length_map, if_pos (lss_t hi)]
      refine (elem_moves hi _).trans ?_
      rw [inc_i hi hl, atB_at _ hi]
      generalize g44L0 k (l.map movec) ((i + 1 : Nat) : Int) = X
      simp only [s46, s37, Option.bind_some, elem_moves hi]
      generalize l[i] = t
      unfold moveOk
      cases regOk t.region <;> cases coreOk t.to <;> rfl)
    (fun k i hi => by show g44L0 (k + 1) (l.map movec) _ = _; rw [g44L0_eq, List.length_map, if_neg (lss_f hi)])
  rw [Nat.sub_zero, all_at] at this
  refine Eq.trans this ?_
  have e : cop .leq (l.length : Int) 16 = decide (l.length ≤ 16) := by rw [bool_iff]; simp only [CQ]; omega
  rw [e]
  cases l.all moveOk <;> rfl

theorem s175 (l : List Int) (hl : l.length < 2 ^ 63) (a : Int) : ∃ r, g175 (intCells l) a = some r ∧ cop .geq r 0 = l.any (fun x => decide (a = x)) := by
  rw [g175_eq, ints_len]
  have := scan_idx (F := fun k i => g175L0 k (intCells l) a (l.length : Int) i) (n := l.length) (fun i => !atB (fun x => !decide (a = x)) l i) hl
    (fun k i hi => by
      show g175L0 (k + 1) _ _ _ _ = _
      rw [g175L0_eq, if_pos (lss_t hi)]
      refine (elem_ints hi _).trans ?_
      rw [inc_i hi hl, atB_at _ hi, Bool.not_not]
      rfl)
    (fun k i hi => by show g175L0 (k + 1) _ _ _ _ = _; rw [g175L0_eq, if_neg (lss_f hi)])
  rw [any_at] at this
  have e : (!(l.all fun x => !decide (a = x))) = l.any (fun x => decide (a = x)) := by
    rw [List.any_eq_not_all_not]
  rw [e] at this
  exact this

theorem s152 (l : List Int) (hl : l.length < 2 ^ 63) (a : Int) : g152 (intCells l) a = some (l.any (fun x => decide (a = x))) := by
  obtain ⟨r, h1, h2⟩ := s175 l hl a
  rw [g152_eq, h1, Option.bind_some, h2]

theorem s105 (l : List Int) (hl : l.length < 2 ^ 63) (a : Int) : g105 (intCells l) a = some (l.any (fun x => decide (a = x))) := by
  rw [g105_eq]
  have := scan_all (F := fun k i => g105L0 k (intCells l) a i) (n := l.length) (fin := some false) (bad := some true) (atB (fun x => !decide (a = x)) l) hl 0 (by omega)
    (fun k i _ hi => by
      show g105L0 (k + 1) (intCells l) _ _ = _
      rw [g105L0_eq, ints_len, if_pos (lss_t hi)]
      refine (elem_ints hi _).trans ?_
      rw [inc_i hi hl, atB_at _ hi]
      generalize g105L0 k (intCells l) a ((i + 1 : Nat) : Int) = X
      generalize l[i] = t
      by_cases h : a = t
      · rw [if_pos (by simp only [CQ]; exact h.symm), if_neg (by simp [h])]
      · rw [if_neg (by simp only [CQ]; exact fun he => h he.symm), if_pos (by simp [h])])
    (fun k i hi => by show g105L0 (k + 1) (intCells l) _ _ = _; rw [g105L0_eq, ints_len, if_neg (lss_f hi)])
  rw [Nat.sub_zero, all_at] at this
  refine Eq.trans this ?_
  rw [List.any_eq_not_all_not]
  cases l.all (fun x => !decide (a = x)) <;> rfl

def newAt (l : List Int) (i : Nat) : Bool := match l[i]? with | some x => !((l.take i).any (fun y => decide (x = y))) | none => true
def viewOk (v : View) : Bool := numOk v.number && decide (v.members.length ≤ 32) && decide (v.owners.length ≤ 16) && (List.range' 0 v.members.length).all (fun i => atB coreOk v.members i && newAt v.members i) && v.owners.all coreOk

theorem new_at {l : List Int} {i : Nat} (hi : i < l.length) : newAt l i = !((l.take i).any (fun y => decide (l[i] = y))) := by
  unfold newAt; rw [List.getElem?_eq_getElem hi]

theorem s97 (v : View) (h1 : v.members.length < 2 ^ 63) (h2 : v.owners.length < 2 ^ 63) : g97 v.number (intCells v.members) (intCells v.owners) = some (viewOk v) := by
  rw [g97_eq, ints_len, ints_len, s31, Option.bind_some]
  have := scan_all (F := fun k i => g97L0 k v.number (intCells v.members) (intCells v.owners) (intCells v.members) (v.members.length : Int) i) (n := v.members.length) (fin := some (v.owners.all coreOk)) (bad := some false) (fun i => atB coreOk v.members i && newAt v.members i) h1 0 (by omega)
    (fun k i _ hi => by
      show g97L0 (k + 1) _ _ _ _ _ _ = _
      rw [g97L0_eq, if_pos (lss_t hi)]
      refine (elem_ints hi _).trans ?_
      rw [s32, Option.bind_some, reqK_pos (by omega), reqK_pos (by rw [ints_len]; omega), Int.toNat_natCast, ints_take, s152 _ (by rw [List.length_take]; omega), Option.bind_some, inc_i hi h1, atB_at _ hi, new_at hi]
      cases coreOk v.members[i] <;> cases (v.members.take i).any (fun y => decide (v.members[i] = y)) <;> rfl)
    (fun k i hi => by
      show g97L0 (k + 1) _ _ _ _ _ _ = _
      rw [g97L0_eq, if_neg (lss_f hi), s92c153 _ h2, Option.bind_some, Bool.not_not])
  rw [Nat.sub_zero] at this
  have this : g97L0 FUEL v.number (intCells v.members) (intCells v.owners) (intCells v.members) (v.members.length : Int) 0 = _ := this
  rw [this]
  unfold viewOk
  by_cases a1 : v.members.length ≤ 32
  · by_cases a2 : v.owners.length ≤ 16
    · rw [if_neg (show ¬ (cop .gtr (v.members.length : Int) 32) = true by simp only [CQ]; omega), if_neg (show ¬ (cop .gtr (v.owners.length : Int) 16) = true by simp only [CQ]; omega), decide_eq_true a1, decide_eq_true a2]
      cases numOk v.number <;> cases (List.range' 0 v.members.length).all (fun i => atB coreOk v.members i && newAt v.members i) <;> rfl
    · rw [if_neg (show ¬ (cop .gtr (v.members.length : Int) 32) = true by simp only [CQ]; omega), if_pos (show (cop .gtr (v.owners.length : Int) 16) = true by simp only [CQ]; omega), decide_eq_false a2]
      cases numOk v.number <;> simp
  · rw [if_pos (show (cop .gtr (v.members.length : Int) 32) = true by simp only [CQ]; omega), decide_eq_false a1]
    cases numOk v.number <;> simp

theorem s43 (v : View) (h1 : v.members.length < 2 ^ 63) (h2 : v.owners.length < 2 ^ 63) : g43 v.number (intCells v.members) (intCells v.owners) = some (viewOk v) := by
  rw [g43_eq, ints_len, ints_len, s36, Option.bind_some]
  have l0 := scan_all (F := fun k i => g43L0 k v.number (intCells v.members) (intCells v.owners) i) (n := v.owners.length) (fin := some true) (bad := some false) (atB coreOk v.owners) h2 0 (by omega)
    (fun k i _ hi => by
      show g43L0 (k + 1) _ _ _ _ = _
      rw [g43L0_eq, ints_len, if_pos (lss_t hi)]
      refine (elem_ints hi _).trans ?_
      rw [s37, Option.bind_some, inc_i hi h2, atB_at _ hi]
      cases coreOk v.owners[i] <;> rfl)
    (fun k i hi => by
      show g43L0 (k + 1) _ _ _ _ = _
      rw [g43L0_eq, ints_len, if_neg (lss_f hi)])
  rw [Nat.sub_zero, all_at] at l0
  have l0 : g43L0 FUEL v.number (intCells v.members) (intCells v.owners) 0 = _ := l0
  have := scan_all (F := fun k i => g43L1 k v.number (intCells v.members) (intCells v.owners) i) (n := v.members.length) (fin := some (v.owners.all coreOk)) (bad := some false) (fun i => atB coreOk v.members i && newAt v.members i) h1 0 (by omega)
    (fun k i _ hi => by
      show g43L1 (k + 1) _ _ _ _ = _
      rw [g43L1_eq, ints_len, if_pos (lss_t hi)]
      refine (elem_ints hi _).trans ?_
      rw [s37, Option.bind_some, reqK_pos (by omega), reqK_pos (by omega), Int.toNat_natCast, ints_take, inc_i hi h1, atB_at _ hi, new_at hi]
      simp only [elem_ints hi]
      rw [s105 _ (by rw [List.length_take]; omega), Option.bind_some]
      cases coreOk v.members[i] <;> cases (v.members.take i).any (fun y => decide (v.members[i] = y)) <;> rfl)
    (fun k i hi => by
      show g43L1 (k + 1) _ _ _ _ = _
      rw [g43L1_eq, ints_len, if_neg (lss_f hi), l0]
      cases v.owners.all coreOk <;> rfl)
  rw [Nat.sub_zero] at this
  have this : g43L1 FUEL v.number (intCells v.members) (intCells v.owners) 0 = _ := this
  rw [this]
  unfold viewOk
  by_cases a1 : v.members.length ≤ 32
  · by_cases a2 : v.owners.length ≤ 16
    · rw [if_neg (show ¬ (cop .gtr (v.members.length : Int) 32) = true by simp only [CQ]; omega), if_neg (show ¬ (cop .gtr (v.owners.length : Int) 16) = true by simp only [CQ]; omega), decide_eq_true a1, decide_eq_true a2]
      cases numOk v.number <;> cases (List.range' 0 v.members.length).all (fun i => atB coreOk v.members i && newAt v.members i) <;> rfl
    · rw [if_neg (show ¬ (cop .gtr (v.members.length : Int) 32) = true by simp only [CQ]; omega), if_pos (show (cop .gtr (v.owners.length : Int) 16) = true by simp only [CQ]; omega), decide_eq_false a2]
      cases numOk v.number <;> simp
  · rw [if_pos (show (cop .gtr (v.members.length : Int) 32) = true by simp only [CQ]; omega), decide_eq_false a1]
    cases numOk v.number <;> simp

structure View.Fits (v : View) : Prop where
  members : v.members.length < 2 ^ 63
  owners : v.owners.length < 2 ^ 63

structure Report.Fits (r : Report) : Prop where
  view : r.view.Fits
  state : r.state.Fits
  next : r.next.Fits
  proposal : r.proposal.Fits

def repOk (r : Report) : Bool := coreOk r.core && viewOk r.view && stateOk r.state && viewOk r.next && stateOk r.proposal

theorem s96 (r : Report) (h : r.Fits) : g96 r.core r.view.number (intCells r.view.members) (intCells r.view.owners) (r.state.slots.map slotc) (r.state.pending.map reqc) (r.state.marks.map markc) (r.state.answers.map ansc) (r.state.entries.map entryc) (idCells r.state.commits) r.ready r.next.number (intCells r.next.members) (intCells r.next.owners) (r.proposal.slots.map slotc) (r.proposal.pending.map reqc) (r.proposal.marks.map markc) (r.proposal.answers.map ansc) (r.proposal.entries.map entryc) (idCells r.proposal.commits) = some (repOk r) := by
  rw [g96_eq, s32, Option.bind_some, s97 _ h.view.members h.view.owners, Option.bind_some, s14 _ h.state, Option.bind_some, s97 _ h.next.members h.next.owners, Option.bind_some, s14 _ h.proposal, Option.bind_some]
  unfold repOk
  cases coreOk r.core <;> cases viewOk r.view <;> cases stateOk r.state <;> cases viewOk r.next <;> cases stateOk r.proposal <;> rfl

theorem s42 (r : Report) (h : r.Fits) : g42 r.core r.view.number (intCells r.view.members) (intCells r.view.owners) (r.state.slots.map slotc) (r.state.pending.map reqc) (r.state.marks.map markc) (r.state.answers.map ansc) (r.state.entries.map entryc) (idCells r.state.commits) r.ready r.next.number (intCells r.next.members) (intCells r.next.owners) (r.proposal.slots.map slotc) (r.proposal.pending.map reqc) (r.proposal.marks.map markc) (r.proposal.answers.map ansc) (r.proposal.entries.map entryc) (idCells r.proposal.commits) = some (repOk r) := by
  rw [g42_eq, s37, Option.bind_some, s43 _ h.view.members h.view.owners, Option.bind_some, s15 _ h.state, Option.bind_some, s43 _ h.next.members h.next.owners, Option.bind_some, s15 _ h.proposal, Option.bind_some]
  unfold repOk
  cases coreOk r.core <;> cases viewOk r.view <;> cases stateOk r.state <;> cases viewOk r.next <;> cases stateOk r.proposal <;> rfl

end Go.Proofs.YtceopohbfkamiaaGreat
end

section
namespace Go.Proofs.YtceopohbfkamiaaGreat
open Go Go.AM
set_option linter.unusedSimpArgs false
set_option linter.unusedVariables false
set_option maxRecDepth 100000

structure Msg where
  kind : Int
  view : Int
  frm : Int
  to : Int
  round : Int
  region : Int
  slot : Int
  op : Id
  err : Int
  settled : Bool
  req : Req
  ids : List Id
  nodes : List Node
  cores : List Int
  moves : List Move
  base : Int
  next : View
  state : State
  report : Report

structure Msg.Fits (m : Msg) : Prop where
  req : m.req.src.path.length < 2 ^ 63
  ids : m.ids.length < 2 ^ 63
  nodes : m.nodes.length < 2 ^ 63
  node : ∀ x ∈ m.nodes, x.path.length < 2 ^ 63
  cores : m.cores.length < 2 ^ 63
  moves : m.moves.length < 2 ^ 63
  next : m.next.Fits
  state : m.state.Fits
  report : m.report.Fits

def msgT (m : Msg) : Qt3 := (m.kind, m.view, m.frm, m.to, m.round, m.region, m.slot, m.op.core, m.op.op, m.op.part, m.err, m.settled, m.req.id.core, m.req.id.op, m.req.id.part, m.req.call.kind, m.req.call.slot, m.req.call.dest, m.req.call.core, m.req.call.mask, m.req.call.object, m.req.call.bits, m.req.call.level, m.req.call.offset, m.req.call.count, m.req.call.index, m.req.call.addr, m.req.region, m.req.width, m.req.src.id.core, m.req.src.id.op, m.req.src.id.part, (idCells m.req.src.path), m.req.src.cap.kind, m.req.src.cap.base, m.req.src.cap.bits, m.req.src.cap.rights, m.req.src.cap.width, m.req.src.cap.level, m.req.src.cap.device, (idCells m.ids), (m.nodes.map nodec), (intCells m.cores), (m.moves.map movec), m.base, m.next.number, (intCells m.next.members), (intCells m.next.owners), (m.state.slots.map slotc), (m.state.pending.map reqc), (m.state.marks.map markc), (m.state.answers.map ansc), (m.state.entries.map entryc), (idCells m.state.commits), m.report.core, m.report.view.number, (intCells m.report.view.members), (intCells m.report.view.owners), (m.report.state.slots.map slotc), (m.report.state.pending.map reqc), (m.report.state.marks.map markc), (m.report.state.answers.map ansc), (m.report.state.entries.map entryc), (idCells m.report.state.commits), m.report.ready, m.report.next.number, (intCells m.report.next.members), (intCells m.report.next.owners), (m.report.proposal.slots.map slotc), (m.report.proposal.pending.map reqc), (m.report.proposal.marks.map markc), (m.report.proposal.answers.map ansc), (m.report.proposal.entries.map entryc), (idCells m.report.proposal.commits))

def noCall : Call := ⟨0, 0, 0, 0, 0, 0, 0, 0, 0, 0, 0, 0⟩
def noReq : Req := ⟨zid, noCall, 0, 0, noNode⟩
def noView : View := ⟨0, [], []⟩
def noState : State := ⟨[], [], [], [], [], []⟩
def noReport : Report := ⟨0, noView, noState, false, noView, noState⟩

/-- A field set to zero. -/
def clr (m : Msg) : Nat → Msg
  | 0 => { m with region := 0 }
  | 1 => { m with req := noReq }
  | 2 => { m with op := zid }
  | 3 => { m with err := 0 }
  | 4 => { m with settled := false }
  | 5 => { m with nodes := [] }
  | 6 => { m with slot := 0 }
  | 7 => { m with ids := [] }
  | 8 => { m with round := 0 }
  | 9 => { m with cores := [] }
  | 10 => { m with report := noReport }
  | 11 => { m with base := 0 }
  | 12 => { m with next := noView }
  | 13 => { m with state := noState }
  | 14 => { m with moves := [] }
  | _ => m

theorem s34 (m : Msg) : ∀ f : Nat, f < 15 → g34 m.kind m.view m.frm m.to m.round m.region m.slot m.op.core m.op.op m.op.part m.err m.settled m.req.id.core m.req.id.op m.req.id.part m.req.call.kind m.req.call.slot m.req.call.dest m.req.call.core m.req.call.mask m.req.call.object m.req.call.bits m.req.call.level m.req.call.offset m.req.call.count m.req.call.index m.req.call.addr m.req.region m.req.width m.req.src.id.core m.req.src.id.op m.req.src.id.part (idCells m.req.src.path) m.req.src.cap.kind m.req.src.cap.base m.req.src.cap.bits m.req.src.cap.rights m.req.src.cap.width m.req.src.cap.level m.req.src.cap.device (idCells m.ids) (m.nodes.map nodec) (intCells m.cores) (m.moves.map movec) m.base m.next.number (intCells m.next.members) (intCells m.next.owners) (m.state.slots.map slotc) (m.state.pending.map reqc) (m.state.marks.map markc) (m.state.answers.map ansc) (m.state.entries.map entryc) (idCells m.state.commits) m.report.core m.report.view.number (intCells m.report.view.members) (intCells m.report.view.owners) (m.report.state.slots.map slotc) (m.report.state.pending.map reqc) (m.report.state.marks.map markc) (m.report.state.answers.map ansc) (m.report.state.entries.map entryc) (idCells m.report.state.commits) m.report.ready m.report.next.number (intCells m.report.next.members) (intCells m.report.next.owners) (m.report.proposal.slots.map slotc) (m.report.proposal.pending.map reqc) (m.report.proposal.marks.map markc) (m.report.proposal.answers.map ansc) (m.report.proposal.entries.map entryc) (idCells m.report.proposal.commits) (f : Int) = some (msgT (clr m f))
  | 0, _ => by rw [g34_eq]; rfl
  | 1, _ => by rw [g34_eq]; rfl
  | 2, _ => by rw [g34_eq]; rfl
  | 3, _ => by rw [g34_eq]; rfl
  | 4, _ => by rw [g34_eq]; rfl
  | 5, _ => by rw [g34_eq]; rfl
  | 6, _ => by rw [g34_eq]; rfl
  | 7, _ => by rw [g34_eq]; rfl
  | 8, _ => by rw [g34_eq]; rfl
  | 9, _ => by rw [g34_eq]; rfl
  | 10, _ => by rw [g34_eq]; rfl
  | 11, _ => by rw [g34_eq]; rfl
  | 12, _ => by rw [g34_eq]; rfl
  | 13, _ => by rw [g34_eq]; rfl
  | 14, _ => by rw [g34_eq]; rfl

theorem s95 (m : Msg) {j : Nat} (hj : j + 1 < m.cores.length) : g95 (j : Int) ((j + 1 : Nat) : Int) m.kind m.view m.frm m.to m.round m.region m.slot m.op.core m.op.op m.op.part m.err m.settled m.req.id.core m.req.id.op m.req.id.part m.req.call.kind m.req.call.slot m.req.call.dest m.req.call.core m.req.call.mask m.req.call.object m.req.call.bits m.req.call.level m.req.call.offset m.req.call.count m.req.call.index m.req.call.addr m.req.region m.req.width m.req.src.id.core m.req.src.id.op m.req.src.id.part (idCells m.req.src.path) m.req.src.cap.kind m.req.src.cap.base m.req.src.cap.bits m.req.src.cap.rights m.req.src.cap.width m.req.src.cap.level m.req.src.cap.device (idCells m.ids) (m.nodes.map nodec) (intCells m.cores) (m.moves.map movec) m.base m.next.number (intCells m.next.members) (intCells m.next.owners) (m.state.slots.map slotc) (m.state.pending.map reqc) (m.state.marks.map markc) (m.state.answers.map ansc) (m.state.entries.map entryc) (idCells m.state.commits) m.report.core m.report.view.number (intCells m.report.view.members) (intCells m.report.view.owners) (m.report.state.slots.map slotc) (m.report.state.pending.map reqc) (m.report.state.marks.map markc) (m.report.state.answers.map ansc) (m.report.state.entries.map entryc) (idCells m.report.state.commits) m.report.ready m.report.next.number (intCells m.report.next.members) (intCells m.report.next.owners) (m.report.proposal.slots.map slotc) (m.report.proposal.pending.map reqc) (m.report.proposal.marks.map markc) (m.report.proposal.answers.map ansc) (m.report.proposal.entries.map entryc) (idCells m.report.proposal.commits) = some (ltI m.cores[j] m.cores[j + 1], msgT m) := by
  rw [g95_eq]
  refine (elem_ints (show j < m.cores.length by omega) _).trans ?_
  refine (elem_ints hj _).trans ?_
  rfl

theorem s94c95 (m : Msg) (h : m.Fits) : g94c95 (m.cores.length : Int) m.kind m.view m.frm m.to m.round m.region m.slot m.op.core m.op.op m.op.part m.err m.settled m.req.id.core m.req.id.op m.req.id.part m.req.call.kind m.req.call.slot m.req.call.dest m.req.call.core m.req.call.mask m.req.call.object m.req.call.bits m.req.call.level m.req.call.offset m.req.call.count m.req.call.index m.req.call.addr m.req.region m.req.width m.req.src.id.core m.req.src.id.op m.req.src.id.part (idCells m.req.src.path) m.req.src.cap.kind m.req.src.cap.base m.req.src.cap.bits m.req.src.cap.rights m.req.src.cap.width m.req.src.cap.level m.req.src.cap.device (idCells m.ids) (m.nodes.map nodec) (intCells m.cores) (m.moves.map movec) m.base m.next.number (intCells m.next.members) (intCells m.next.owners) (m.state.slots.map slotc) (m.state.pending.map reqc) (m.state.marks.map markc) (m.state.answers.map ansc) (m.state.entries.map entryc) (idCells m.state.commits) m.report.core m.report.view.number (intCells m.report.view.members) (intCells m.report.view.owners) (m.report.state.slots.map slotc) (m.report.state.pending.map reqc) (m.report.state.marks.map markc) (m.report.state.answers.map ansc) (m.report.state.entries.map entryc) (idCells m.report.state.commits) m.report.ready m.report.next.number (intCells m.report.next.members) (intCells m.report.next.owners) (m.report.proposal.slots.map slotc) (m.report.proposal.pending.map reqc) (m.report.proposal.marks.map markc) (m.report.proposal.answers.map ansc) (m.report.proposal.entries.map entryc) (idCells m.report.proposal.commits) = some (ascB ltI m.cores, msgT m) := by
  rw [g94c95_eq]
  have := scan_all (F := fun k i => g94c95L0 k (m.cores.length : Int) i m.kind m.view m.frm m.to m.round m.region m.slot m.op.core m.op.op m.op.part m.err m.settled m.req.id.core m.req.id.op m.req.id.part m.req.call.kind m.req.call.slot m.req.call.dest m.req.call.core m.req.call.mask m.req.call.object m.req.call.bits m.req.call.level m.req.call.offset m.req.call.count m.req.call.index m.req.call.addr m.req.region m.req.width m.req.src.id.core m.req.src.id.op m.req.src.id.part (idCells m.req.src.path) m.req.src.cap.kind m.req.src.cap.base m.req.src.cap.bits m.req.src.cap.rights m.req.src.cap.width m.req.src.cap.level m.req.src.cap.device (idCells m.ids) (m.nodes.map nodec) (intCells m.cores) (m.moves.map movec) m.base m.next.number (intCells m.next.members) (intCells m.next.owners) (m.state.slots.map slotc) (m.state.pending.map reqc) (m.state.marks.map markc) (m.state.answers.map ansc) (m.state.entries.map entryc) (idCells m.state.commits) m.report.core m.report.view.number (intCells m.report.view.members) (intCells m.report.view.owners) (m.report.state.slots.map slotc) (m.report.state.pending.map reqc) (m.report.state.marks.map markc) (m.report.state.answers.map ansc) (m.report.state.entries.map entryc) (idCells m.report.state.commits) m.report.ready m.report.next.number (intCells m.report.next.members) (intCells m.report.next.owners) (m.report.proposal.slots.map slotc) (m.report.proposal.pending.map reqc) (m.report.proposal.marks.map markc) (m.report.proposal.answers.map ansc) (m.report.proposal.entries.map entryc) (idCells m.report.proposal.commits)) (n := m.cores.length) (fin := some (true, msgT m)) (bad := some (false, msgT m)) (prevB ltI m.cores) h.cores 1 (by omega)
    (fun k i h1 hi => by
      obtain ⟨j, rfl⟩ : ∃ j, i = j + 1 := ⟨i - 1, by omega⟩
      refine (g94c95L0_eq ..).trans ?_
      rw [if_pos (lss_t hi), dec_i (by have := h.cores; omega), s95 m hi, Option.bind_some, inc_i hi h.cores, prev_at _ hi]
      cases ltI m.cores[j] m.cores[j + 1] <;> rfl)
    (fun k i hi => by refine (g94c95L0_eq ..).trans ?_; rw [if_neg (lss_f hi)]; rfl)
  rw [asc1] at this
  refine Eq.trans this ?_
  cases ascB ltI m.cores <;> rfl

def fieldOk (m : Msg) : Nat → Bool
  | 0 => regOk m.region
  | 1 => reqOk m.req
  | 2 => opOk m.op
  | 3 => errOk m.err
  | 5 => decide (m.nodes.length ≤ 8) && (decide (m.kind ≠ 4) || decide (m.nodes.length = 1)) && m.nodes.all nodeOk
  | 6 => slotOk m.slot
  | 7 => decide (m.ids.length ≤ 64) && m.ids.all idOk
  | 8 => numOk m.round
  | 9 => coresOk m.cores
  | 10 => repOk m.report
  | 11 => numOk m.base
  | 12 => viewOk m.next
  | 13 => stateOk m.state
  | 14 => decide (m.moves.length ≤ 16) && m.moves.all moveOk
  | _ => true

theorem s33 (m : Msg) (h : m.Fits) : ∀ f : Nat, f < 15 → g33 m.kind m.view m.frm m.to m.round m.region m.slot m.op.core m.op.op m.op.part m.err m.settled m.req.id.core m.req.id.op m.req.id.part m.req.call.kind m.req.call.slot m.req.call.dest m.req.call.core m.req.call.mask m.req.call.object m.req.call.bits m.req.call.level m.req.call.offset m.req.call.count m.req.call.index m.req.call.addr m.req.region m.req.width m.req.src.id.core m.req.src.id.op m.req.src.id.part (idCells m.req.src.path) m.req.src.cap.kind m.req.src.cap.base m.req.src.cap.bits m.req.src.cap.rights m.req.src.cap.width m.req.src.cap.level m.req.src.cap.device (idCells m.ids) (m.nodes.map nodec) (intCells m.cores) (m.moves.map movec) m.base m.next.number (intCells m.next.members) (intCells m.next.owners) (m.state.slots.map slotc) (m.state.pending.map reqc) (m.state.marks.map markc) (m.state.answers.map ansc) (m.state.entries.map entryc) (idCells m.state.commits) m.report.core m.report.view.number (intCells m.report.view.members) (intCells m.report.view.owners) (m.report.state.slots.map slotc) (m.report.state.pending.map reqc) (m.report.state.marks.map markc) (m.report.state.answers.map ansc) (m.report.state.entries.map entryc) (idCells m.report.state.commits) m.report.ready m.report.next.number (intCells m.report.next.members) (intCells m.report.next.owners) (m.report.proposal.slots.map slotc) (m.report.proposal.pending.map reqc) (m.report.proposal.marks.map markc) (m.report.proposal.answers.map ansc) (m.report.proposal.entries.map entryc) (idCells m.report.proposal.commits) (f : Int) = some (fieldOk m f)
  | 0, _ => by
      refine (g33_eq ..).trans ?_
      exact (congrArg (fun x => Option.bind x some) (s48 _))
  | 1, _ => by
      refine (g33_eq ..).trans ?_
      exact (congrArg (fun x => Option.bind x some) (s12 _ h.req))
  | 2, _ => by
      refine (g33_eq ..).trans ?_
      exact (congrArg (fun x => Option.bind x some) (s47 _))
  | 3, _ => by
      refine (g33_eq ..).trans ?_
      exact (congrArg (fun x => Option.bind x some) (s86 _))
  | 4, _ => by
      refine (g33_eq ..).trans ?_
      rfl
  | 5, _ => by
      refine (g33_eq ..).trans ?_
      show (if (cop .gtr ((m.nodes.map nodec).length : Int) 8) = true then some false else if (cop .eql m.kind 4) = true then (if (cop .neq ((m.nodes.map nodec).length : Int) 1) = true then some false else (g87c88 (m.nodes.map nodec)).bind fun r => some (!r)) else (g87c88 (m.nodes.map nodec)).bind fun r => some (!r)) = _
      rw [List.length_map, s87c88 _ h.nodes h.node]
      repeat' split
      all_goals (refine congrArg some ?_; rw [bool_iff]; simp only [fieldOk, Bool.not_not, CQ] at * <;> grind)
  | 6, _ => by
      refine (g33_eq ..).trans ?_
      exact (congrArg (fun x => Option.bind x some) (s89 _))
  | 7, _ => by
      refine (g33_eq ..).trans ?_
      show (if (cop .leq ((idCells m.ids).length : Int) 64) = true then (g57c90 (idCells m.ids)).bind fun r => some (!r) else some false) = _
      rw [ids_len, s57c90 _ h.ids]
      repeat' split
      all_goals (refine congrArg some ?_; rw [bool_iff]; simp only [fieldOk, Bool.not_not, CQ] at * <;> grind)
  | 8, _ => by
      refine (g33_eq ..).trans ?_
      exact (congrArg (fun x => Option.bind x some) (s31 _))
  | 9, _ => by
      refine (g33_eq ..).trans ?_
      show ((g92c93 (intCells m.cores)).bind fun (r : Bool) => if (!r) = true then (g94c95 ((intCells m.cores).length : Int) m.kind m.view m.frm m.to m.round m.region m.slot m.op.core m.op.op m.op.part m.err m.settled m.req.id.core m.req.id.op m.req.id.part m.req.call.kind m.req.call.slot m.req.call.dest m.req.call.core m.req.call.mask m.req.call.object m.req.call.bits m.req.call.level m.req.call.offset m.req.call.count m.req.call.index m.req.call.addr m.req.region m.req.width m.req.src.id.core m.req.src.id.op m.req.src.id.part (idCells m.req.src.path) m.req.src.cap.kind m.req.src.cap.base m.req.src.cap.bits m.req.src.cap.rights m.req.src.cap.width m.req.src.cap.level m.req.src.cap.device (idCells m.ids) (m.nodes.map nodec) (intCells m.cores) (m.moves.map movec) m.base m.next.number (intCells m.next.members) (intCells m.next.owners) (m.state.slots.map slotc) (m.state.pending.map reqc) (m.state.marks.map markc) (m.state.answers.map ansc) (m.state.entries.map entryc) (idCells m.state.commits) m.report.core m.report.view.number (intCells m.report.view.members) (intCells m.report.view.owners) (m.report.state.slots.map slotc) (m.report.state.pending.map reqc) (m.report.state.marks.map markc) (m.report.state.answers.map ansc) (m.report.state.entries.map entryc) (idCells m.report.state.commits) m.report.ready m.report.next.number (intCells m.report.next.members) (intCells m.report.next.owners) (m.report.proposal.slots.map slotc) (m.report.proposal.pending.map reqc) (m.report.proposal.marks.map markc) (m.report.proposal.answers.map ansc) (m.report.proposal.entries.map entryc) (idCells m.report.proposal.commits)).bind fun r => some r.1 else some false) = _
      rw [s92c93 _ h.cores, ints_len, s94c95 m h, Option.bind_some, Option.bind_some]
      show _ = some (m.cores.all coreOk && ascB ltI m.cores)
      cases m.cores.all coreOk <;> rfl
  | 10, _ => by
      refine (g33_eq ..).trans ?_
      exact (congrArg (fun x => Option.bind x some) (s96 _ h.report))
  | 11, _ => by
      refine (g33_eq ..).trans ?_
      exact (congrArg (fun x => Option.bind x some) (s31 _))
  | 12, _ => by
      refine (g33_eq ..).trans ?_
      exact (congrArg (fun x => Option.bind x some) (s97 _ h.next.members h.next.owners))
  | 13, _ => by
      refine (g33_eq ..).trans ?_
      exact (congrArg (fun x => Option.bind x some) (s14 _ h.state))
  | 14, _ => by
      refine (g33_eq ..).trans ?_
      show (if (cop .leq ((m.moves.map movec).length : Int) 16) = true then (g98c99 (m.moves.map movec)).bind fun r => some (!r) else some false) = _
      rw [List.length_map, s98c99 _ h.moves]
      repeat' split
      all_goals (refine congrArg some ?_; rw [bool_iff]; simp only [fieldOk, Bool.not_not, CQ] at * <;> grind)

/-! what is zero -/
def zReq (r : Req) : Bool := decide (r.id = zid) && decide (r.call.kind = 0 ∧ r.call.slot = 0 ∧ r.call.dest = 0 ∧ r.call.core = 0 ∧ r.call.mask = 0 ∧ r.call.object = 0 ∧ r.call.bits = 0 ∧ r.call.level = 0 ∧ r.call.offset = 0 ∧ r.call.count = 0 ∧ r.call.index = 0 ∧ r.call.addr = 0) && decide (r.region = 0) && decide (r.width = 0) && sameN r.src noNode
def zView (v : View) : Bool := decide (v.number = 0) && decide (v.members.length = 0) && decide (v.owners.length = 0)
def zState (s : State) : Bool := decide (s.slots.length = 0) && decide (s.pending.length = 0) && decide (s.marks.length = 0) && decide (s.answers.length = 0) && decide (s.entries.length = 0) && decide (s.commits.length = 0)
def zReport (r : Report) : Bool := decide (r.core = 0) && zView r.view && zState r.state && !r.ready && zView r.next && zState r.proposal

theorem eql0 (n : Nat) : cop .eql (n : Int) 0 = decide (n = 0) := by rw [bool_iff]; simp only [CQ]; omega
theorem eqlz (z : Int) : cop .eql z 0 = decide (z = 0) := rfl

theorem s100 (r : Req) (h : r.src.path.length < 2 ^ 63) : g100 r.id.core r.id.op r.id.part r.call.kind r.call.slot r.call.dest r.call.core r.call.mask r.call.object r.call.bits r.call.level r.call.offset r.call.count r.call.index r.call.addr r.region r.width r.src.id.core r.src.id.op r.src.id.part (idCells r.src.path) r.src.cap.kind r.src.cap.base r.src.cap.bits r.src.cap.rights r.src.cap.width r.src.cap.level r.src.cap.device = some (zReq r) := by
  rw [g100_eq, s49z _ h, Option.bind_some]
  simp only [zid_eqb, id_eta]
  unfold zReq
  repeat' split
  all_goals (refine congrArg some ?_; rw [bool_iff]; simp only [CQ] at * <;> grind)

theorem s101 (v : View) : g101 v.number (intCells v.members) (intCells v.owners) = some (zView v) := by
  rw [g101_eq, ints_len, ints_len, eql0, eql0, eqlz]
  unfold zView
  cases decide (v.number = 0) <;> cases decide (v.members.length = 0) <;> rfl

theorem s102 (s : State) : g102 (s.slots.map slotc) (s.pending.map reqc) (s.marks.map markc) (s.answers.map ansc) (s.entries.map entryc) (idCells s.commits) = some (zState s) := by
  rw [g102_eq, List.length_map, List.length_map, List.length_map, List.length_map, List.length_map, ids_len, eql0, eql0, eql0, eql0, eql0, eql0]
  unfold zState
  cases decide (s.slots.length = 0) <;> cases decide (s.pending.length = 0) <;> cases decide (s.marks.length = 0) <;> cases decide (s.answers.length = 0) <;> cases decide (s.entries.length = 0) <;> rfl

theorem s103 (r : Report) : g103 r.core r.view.number (intCells r.view.members) (intCells r.view.owners) (r.state.slots.map slotc) (r.state.pending.map reqc) (r.state.marks.map markc) (r.state.answers.map ansc) (r.state.entries.map entryc) (idCells r.state.commits) r.ready r.next.number (intCells r.next.members) (intCells r.next.owners) (r.proposal.slots.map slotc) (r.proposal.pending.map reqc) (r.proposal.marks.map markc) (r.proposal.answers.map ansc) (r.proposal.entries.map entryc) (idCells r.proposal.commits) = some (zReport r) := by
  rw [g103_eq, s101, s102, s101, s102, eqlz, Option.bind_some, Option.bind_some, Option.bind_some, Option.bind_some]
  unfold zReport
  cases decide (r.core = 0) <;> cases zView r.view <;> cases zState r.state <;> cases r.ready <;> cases zView r.next <;> rfl

/-- A field is zero. -/
def zf (m : Msg) : Nat → Bool
  | 0 => decide (m.region = 0)
  | 1 => zReq m.req
  | 2 => decide (m.op = zid)
  | 3 => decide (m.err = 0)
  | 4 => !m.settled
  | 5 => decide (m.nodes.length = 0)
  | 6 => decide (m.slot = 0)
  | 7 => decide (m.ids.length = 0)
  | 8 => decide (m.round = 0)
  | 9 => decide (m.cores.length = 0)
  | 10 => zReport m.report
  | 11 => decide (m.base = 0)
  | 12 => zView m.next
  | 13 => zState m.state
  | 14 => decide (m.moves.length = 0)
  | _ => true

def zMsg (m : Msg) : Bool := (List.range 15).all (zf m)

theorem and_if (b : Bool) {y : Bool} {x : Option Bool} (h : x = some y) : (if b = true then x else some false) = some (b && y) := by cases b <;> simp [h]

theorem s35 (m : Msg) (h : m.req.src.path.length < 2 ^ 63) : g35 m.kind m.view m.frm m.to m.round m.region m.slot m.op.core m.op.op m.op.part m.err m.settled m.req.id.core m.req.id.op m.req.id.part m.req.call.kind m.req.call.slot m.req.call.dest m.req.call.core m.req.call.mask m.req.call.object m.req.call.bits m.req.call.level m.req.call.offset m.req.call.count m.req.call.index m.req.call.addr m.req.region m.req.width m.req.src.id.core m.req.src.id.op m.req.src.id.part (idCells m.req.src.path) m.req.src.cap.kind m.req.src.cap.base m.req.src.cap.bits m.req.src.cap.rights m.req.src.cap.width m.req.src.cap.level m.req.src.cap.device (idCells m.ids) (m.nodes.map nodec) (intCells m.cores) (m.moves.map movec) m.base m.next.number (intCells m.next.members) (intCells m.next.owners) (m.state.slots.map slotc) (m.state.pending.map reqc) (m.state.marks.map markc) (m.state.answers.map ansc) (m.state.entries.map entryc) (idCells m.state.commits) m.report.core m.report.view.number (intCells m.report.view.members) (intCells m.report.view.owners) (m.report.state.slots.map slotc) (m.report.state.pending.map reqc) (m.report.state.marks.map markc) (m.report.state.answers.map ansc) (m.report.state.entries.map entryc) (idCells m.report.state.commits) m.report.ready m.report.next.number (intCells m.report.next.members) (intCells m.report.next.owners) (m.report.proposal.slots.map slotc) (m.report.proposal.pending.map reqc) (m.report.proposal.marks.map markc) (m.report.proposal.answers.map ansc) (m.report.proposal.entries.map entryc) (idCells m.report.proposal.commits) = some (zMsg m) := by
  rw [g35_eq, s100 _ h, s101, s102, s103, ids_len, List.length_map, ints_len, List.length_map, eql0, eql0, eql0, eql0, eqlz m.round, eqlz m.region, eqlz m.slot, eqlz m.err, eqlz m.base]
  have e : ((cop .eql m.op.core 0) && ((cop .eql m.op.op 0) && ((cop .eql m.op.part 0) && true))) = decide (m.op = zid) := by
    rw [bool_iff, zid_eqb, id_eta, decide_eq_true_eq]
  rw [e]
  simp only [Option.bind_some]
  refine Eq.trans (and_if _ (and_if _ (and_if _ (and_if _ (and_if _ (and_if _ (and_if _ (and_if _ (and_if _ (and_if _ (and_if _ (and_if _ (and_if _ (and_if _ (rfl))))))))))))))) ?_
  refine congrArg some ?_
  show _ = (zf m 0 && (zf m 1 && (zf m 2 && (zf m 3 && (zf m 4 && (zf m 5 && (zf m 6 && (zf m 7 && (zf m 8 && (zf m 9 && (zf m 10 && (zf m 11 && (zf m 12 && (zf m 13 && (zf m 14 && true)))))))))))))))
  simp only [zf, Bool.and_true]
  ac_rfl

end Go.Proofs.YtceopohbfkamiaaGreat
end

section
namespace Go.Proofs.YtceopohbfkamiaaGreat
open Go Go.AM
set_option linter.unusedSimpArgs false
set_option linter.unusedVariables false
set_option maxRecDepth 100000

/-- The fields of a kind of message. -/
def kf : Nat → List Nat
  | 1 => [0, 1]
  | 2 => [0, 2, 3, 4, 5]
  | 3 => [0, 2]
  | 4 => [0, 2, 6, 5]
  | 5 => [0, 2, 3]
  | 6 => [0, 2, 7]
  | 7 => [0, 2]
  | 8 => [0, 2]
  | 9 => [0, 2]
  | 10 => [0, 2]
  | 11 => [0, 2]
  | 12 => [8, 9]
  | 13 => [8, 10]
  | 14 => [8, 11, 9, 12, 13]
  | 15 => [8]
  | 16 => [8]
  | 17 => [9, 14]
  | _ => []

def fc (l : List Nat) : List (List AV) := l.map fun f : Nat => [I (f : Int)]

theorem s19 : ∀ n : Nat, 1 ≤ n → n ≤ 17 → g19 (n : Int) = some (fc (kf n), true)
  | 1, _, _ => by rw [g19_eq]; rfl
  | 2, _, _ => by rw [g19_eq]; rfl
  | 3, _, _ => by rw [g19_eq]; rfl
  | 4, _, _ => by rw [g19_eq]; rfl
  | 5, _, _ => by rw [g19_eq]; rfl
  | 6, _, _ => by rw [g19_eq]; rfl
  | 7, _, _ => by rw [g19_eq]; rfl
  | 8, _, _ => by rw [g19_eq]; rfl
  | 9, _, _ => by rw [g19_eq]; rfl
  | 10, _, _ => by rw [g19_eq]; rfl
  | 11, _, _ => by rw [g19_eq]; rfl
  | 12, _, _ => by rw [g19_eq]; rfl
  | 13, _, _ => by rw [g19_eq]; rfl
  | 14, _, _ => by rw [g19_eq]; rfl
  | 15, _, _ => by rw [g19_eq]; rfl
  | 16, _, _ => by rw [g19_eq]; rfl
  | 17, _, _ => by rw [g19_eq]; rfl
  | n + 18, _, h => absurd h (by omega)
theorem s19n (k : Int) (h : ¬ (1 ≤ k ∧ k ≤ 17)) : g19 k = some (([] : List (List AV)), false) := by
  rw [g19_eq]
  rw [if_neg (show ¬ (cop .eql k 1) = true by simp only [CQ]; omega)]
  rw [if_neg (show ¬ (cop .eql k 2) = true by simp only [CQ]; omega)]
  rw [if_neg (show ¬ (cop .eql k 3) = true by simp only [CQ]; omega)]
  rw [if_neg (show ¬ (cop .eql k 7) = true by simp only [CQ]; omega)]
  rw [if_neg (show ¬ (cop .eql k 8) = true by simp only [CQ]; omega)]
  rw [if_neg (show ¬ (cop .eql k 9) = true by simp only [CQ]; omega)]
  rw [if_neg (show ¬ (cop .eql k 10) = true by simp only [CQ]; omega)]
  rw [if_neg (show ¬ (cop .eql k 11) = true by simp only [CQ]; omega)]
  rw [if_neg (show ¬ (cop .eql k 4) = true by simp only [CQ]; omega)]
  rw [if_neg (show ¬ (cop .eql k 5) = true by simp only [CQ]; omega)]
  rw [if_neg (show ¬ (cop .eql k 6) = true by simp only [CQ]; omega)]
  rw [if_neg (show ¬ (cop .eql k 12) = true by simp only [CQ]; omega)]
  rw [if_neg (show ¬ (cop .eql k 13) = true by simp only [CQ]; omega)]
  rw [if_neg (show ¬ (cop .eql k 14) = true by simp only [CQ]; omega)]
  rw [if_neg (show ¬ (cop .eql k 15) = true by simp only [CQ]; omega)]
  rw [if_neg (show ¬ (cop .eql k 16) = true by simp only [CQ]; omega)]
  rw [if_neg (show ¬ (cop .eql k 17) = true by simp only [CQ]; omega)]

theorem kf_lt (n : Nat) : ∀ f ∈ kf n, f < 15 := by
  intro f hf
  unfold kf at hf
  split at hf <;> simp at hf <;> omega

theorem elem_fc {γ : Type} {l : List Nat} {i : Nat} (h : i < l.length) (k : Int → Option γ) : elemK (fc l) (i : Int) [.int .i64] k = k (l[i] : Int) := elem_map (f := fun n : Nat => [I (n : Int)]) (sh := [.int .i64]) (v := fun n : Nat => (n : Int)) (fun _ => rfl) h k

theorem clr_path (r : Msg) (f : Nat) (h : r.req.src.path.length < 2 ^ 63) : (clr r f).req.src.path.length < 2 ^ 63 := by
  unfold clr
  split <;> first | exact h | (show ([] : List Id).length < 2 ^ 63; simp)

theorem l9 (m : Msg) (h : m.Fits) (L : List Nat) (hL : ∀ f ∈ L, f < 15) (hn : L.length < 2 ^ 63) : ∀ (j i fuel : Nat) (r : Msg), L.length = i + j → j < fuel → r.req.src.path.length < 2 ^ 63 →
    g9L0 fuel m.kind m.view m.frm m.to m.round m.region m.slot m.op.core m.op.op m.op.part m.err m.settled m.req.id.core m.req.id.op m.req.id.part m.req.call.kind m.req.call.slot m.req.call.dest m.req.call.core m.req.call.mask m.req.call.object m.req.call.bits m.req.call.level m.req.call.offset m.req.call.count m.req.call.index m.req.call.addr m.req.region m.req.width m.req.src.id.core m.req.src.id.op m.req.src.id.part (idCells m.req.src.path) m.req.src.cap.kind m.req.src.cap.base m.req.src.cap.bits m.req.src.cap.rights m.req.src.cap.width m.req.src.cap.level m.req.src.cap.device (idCells m.ids) (m.nodes.map nodec) (intCells m.cores) (m.moves.map movec) m.base m.next.number (intCells m.next.members) (intCells m.next.owners) (m.state.slots.map slotc) (m.state.pending.map reqc) (m.state.marks.map markc) (m.state.answers.map ansc) (m.state.entries.map entryc) (idCells m.state.commits) m.report.core m.report.view.number (intCells m.report.view.members) (intCells m.report.view.owners) (m.report.state.slots.map slotc) (m.report.state.pending.map reqc) (m.report.state.marks.map markc) (m.report.state.answers.map ansc) (m.report.state.entries.map entryc) (idCells m.report.state.commits) m.report.ready m.report.next.number (intCells m.report.next.members) (intCells m.report.next.owners) (m.report.proposal.slots.map slotc) (m.report.proposal.pending.map reqc) (m.report.proposal.marks.map markc) (m.report.proposal.answers.map ansc) (m.report.proposal.entries.map entryc) (idCells m.report.proposal.commits) r.kind r.view r.frm r.to r.round r.region r.slot r.op.core r.op.op r.op.part r.err r.settled r.req.id.core r.req.id.op r.req.id.part r.req.call.kind r.req.call.slot r.req.call.dest r.req.call.core r.req.call.mask r.req.call.object r.req.call.bits r.req.call.level r.req.call.offset r.req.call.count r.req.call.index r.req.call.addr r.req.region r.req.width r.req.src.id.core r.req.src.id.op r.req.src.id.part (idCells r.req.src.path) r.req.src.cap.kind r.req.src.cap.base r.req.src.cap.bits r.req.src.cap.rights r.req.src.cap.width r.req.src.cap.level r.req.src.cap.device (idCells r.ids) (r.nodes.map nodec) (intCells r.cores) (r.moves.map movec) r.base r.next.number (intCells r.next.members) (intCells r.next.owners) (r.state.slots.map slotc) (r.state.pending.map reqc) (r.state.marks.map markc) (r.state.answers.map ansc) (r.state.entries.map entryc) (idCells r.state.commits) r.report.core r.report.view.number (intCells r.report.view.members) (intCells r.report.view.owners) (r.report.state.slots.map slotc) (r.report.state.pending.map reqc) (r.report.state.marks.map markc) (r.report.state.answers.map ansc) (r.report.state.entries.map entryc) (idCells r.report.state.commits) r.report.ready r.report.next.number (intCells r.report.next.members) (intCells r.report.next.owners) (r.report.proposal.slots.map slotc) (r.report.proposal.pending.map reqc) (r.report.proposal.marks.map markc) (r.report.proposal.answers.map ansc) (r.report.proposal.entries.map entryc) (idCells r.report.proposal.commits) (fc L) (L.length : Int) (i : Int) = some ((L.drop i).all (fieldOk m) && zMsg ((L.drop i).foldl clr r)) := by
  intro j
  induction j with
  | zero =>
    intro i fuel r hij hf hr
    obtain ⟨f, rfl⟩ : ∃ f, fuel = f + 1 := ⟨fuel - 1, by omega⟩
    refine (g9L0_eq ..).trans ?_
    rw [if_neg (lss_f (by omega)), s35 r hr, Option.bind_some, List.drop_of_length_le (by omega)]
    rfl
  | succ j ih =>
    intro i fuel r hij hf hr
    obtain ⟨f, rfl⟩ : ∃ f, fuel = f + 1 := ⟨fuel - 1, by omega⟩
    have hi : i < L.length := by omega
    have hlt := hL _ (List.getElem_mem hi)
    refine (g9L0_eq ..).trans ?_
    rw [if_pos (lss_t hi)]
    refine (elem_fc hi _).trans ?_
    rw [s33 m h _ hlt, Option.bind_some, List.drop_eq_getElem_cons hi, List.all_cons, List.foldl_cons, inc_i hi hn]
    cases fieldOk m L[i] with
    | false => rfl
    | true =>
      rw [if_neg (by simp), s34 r _ hlt, Option.bind_some, Bool.true_and]
      exact ih (i + 1) f (clr r L[i]) (by omega) (by omega) (clr_path r _ hr)

def kindOk (k : Int) : Bool := decide (1 ≤ k ∧ k ≤ 17)
def headOk (m : Msg) : Bool := kindOk m.kind && numOk m.view && coreOk m.frm && coreOk m.to
/-- All fields but those of the kind are zero. -/
def rest (n : Nat) (m : Msg) : Bool := (List.range 15).all (fun g => (kf n).contains g || zf m g)
def validB (m : Msg) : Bool := headOk m && ((kf m.kind.toNat).all (fieldOk m) && rest m.kind.toNat m)

theorem rest_eq (m : Msg) : ∀ n : Nat, 1 ≤ n → n ≤ 17 → zMsg ((kf n).foldl clr m) = rest n m
  | 1, _, _ => by kernel_rfl
  | 2, _, _ => by kernel_rfl
  | 3, _, _ => by kernel_rfl
  | 4, _, _ => by kernel_rfl
  | 5, _, _ => by kernel_rfl
  | 6, _, _ => by kernel_rfl
  | 7, _, _ => by kernel_rfl
  | 8, _, _ => by kernel_rfl
  | 9, _, _ => by kernel_rfl
  | 10, _, _ => by kernel_rfl
  | 11, _, _ => by kernel_rfl
  | 12, _, _ => by kernel_rfl
  | 13, _, _ => by kernel_rfl
  | 14, _, _ => by kernel_rfl
  | 15, _, _ => by kernel_rfl
  | 16, _, _ => by kernel_rfl
  | 17, _, _ => by kernel_rfl
  | n + 18, _, h => absurd h (by omega)
theorem s9 (m : Msg) (h : m.Fits) : g9 m.kind m.view m.frm m.to m.round m.region m.slot m.op.core m.op.op m.op.part m.err m.settled m.req.id.core m.req.id.op m.req.id.part m.req.call.kind m.req.call.slot m.req.call.dest m.req.call.core m.req.call.mask m.req.call.object m.req.call.bits m.req.call.level m.req.call.offset m.req.call.count m.req.call.index m.req.call.addr m.req.region m.req.width m.req.src.id.core m.req.src.id.op m.req.src.id.part (idCells m.req.src.path) m.req.src.cap.kind m.req.src.cap.base m.req.src.cap.bits m.req.src.cap.rights m.req.src.cap.width m.req.src.cap.level m.req.src.cap.device (idCells m.ids) (m.nodes.map nodec) (intCells m.cores) (m.moves.map movec) m.base m.next.number (intCells m.next.members) (intCells m.next.owners) (m.state.slots.map slotc) (m.state.pending.map reqc) (m.state.marks.map markc) (m.state.answers.map ansc) (m.state.entries.map entryc) (idCells m.state.commits) m.report.core m.report.view.number (intCells m.report.view.members) (intCells m.report.view.owners) (m.report.state.slots.map slotc) (m.report.state.pending.map reqc) (m.report.state.marks.map markc) (m.report.state.answers.map ansc) (m.report.state.entries.map entryc) (idCells m.report.state.commits) m.report.ready m.report.next.number (intCells m.report.next.members) (intCells m.report.next.owners) (m.report.proposal.slots.map slotc) (m.report.proposal.pending.map reqc) (m.report.proposal.marks.map markc) (m.report.proposal.answers.map ansc) (m.report.proposal.entries.map entryc) (idCells m.report.proposal.commits) = some (validB m) := by
  rw [g9_eq]
  unfold validB headOk
  by_cases hk : 1 ≤ m.kind ∧ m.kind ≤ 17
  · obtain ⟨n, hn⟩ : ∃ n : Nat, m.kind = n := ⟨m.kind.toNat, by omega⟩
    have h1 : kindOk m.kind = true := decide_eq_true hk
    have e19 : g19 m.kind = some (fc (kf n), true) := by rw [hn]; exact s19 n (by omega) (by omega)
    rw [e19, Option.bind_some, s31, s32, s32, Option.bind_some, Option.bind_some, Option.bind_some, h1]
    have hlen : (fc (kf n)).length = (kf n).length := List.length_map _
    have hsz : (kf n).length < 2 ^ 63 := by
      have : (kf n).length ≤ 5 := by unfold kf; split <;> simp
      omega
    have e := l9 m h (kf n) (kf_lt n) hsz (kf n).length 0 FUEL m (by omega) (by have := fuel63 hsz; omega) h.req
    rw [List.drop_zero, rest_eq m n (by omega) (by omega)] at e
    have hk2 : m.kind.toNat = n := by omega
    rw [hk2]
    dsimp only
    rw [hlen]
    refine (if_neg (by simp)).trans ?_
    cases numOk m.view <;> cases coreOk m.frm <;> cases coreOk m.to <;> first | rfl | exact e
  · have h1 : kindOk m.kind = false := decide_eq_false hk
    rw [s19n _ hk, Option.bind_some, h1]
    rfl

end Go.Proofs.YtceopohbfkamiaaGreat
end

section
namespace Go.Proofs.YtceopohbfkamiaaGreat
open Go Go.AM
set_option linter.unusedSimpArgs false
set_option linter.unusedVariables false
set_option maxRecDepth 100000

theorem eqlD (a b : Int) : cop .eql a b = decide (a = b) := rfl

def at2 {α : Type} (q : α → α → Bool) (l m : List α) (i : Nat) : Bool := match l[i]?, m[i]? with | some a, some b => q a b | _, _ => true
def sameL {α : Type} (q : α → α → Bool) (l m : List α) : Bool := decide (l.length = m.length) && (List.range' 0 l.length).all (at2 q l m)

theorem at2_at {α : Type} (q : α → α → Bool) {l m : List α} {i : Nat} (h : i < l.length) (h' : i < m.length) : at2 q l m i = q l[i] m[i] := by
  unfold at2
  rw [List.getElem?_eq_getElem h, List.getElem?_eq_getElem h']

def sameR (a b : Req) : Bool := decide (a.id.core = b.id.core ∧ a.id.op = b.id.op ∧ a.id.part = b.id.part) && decide (a.call.kind = b.call.kind ∧ a.call.slot = b.call.slot ∧ a.call.dest = b.call.dest ∧ a.call.core = b.call.core ∧ a.call.mask = b.call.mask ∧ a.call.object = b.call.object ∧ a.call.bits = b.call.bits ∧ a.call.level = b.call.level ∧ a.call.offset = b.call.offset ∧ a.call.count = b.call.count ∧ a.call.index = b.call.index ∧ a.call.addr = b.call.addr) && decide (a.region = b.region) && decide (a.width = b.width) && sameN a.src b.src

theorem s64 (a b : Req) (ha : a.src.path.length < 2 ^ 63) (hb : b.src.path.length < 2 ^ 63) : g64 a.id.core a.id.op a.id.part a.call.kind a.call.slot a.call.dest a.call.core a.call.mask a.call.object a.call.bits a.call.level a.call.offset a.call.count a.call.index a.call.addr a.region a.width a.src.id.core a.src.id.op a.src.id.part (idCells a.src.path) a.src.cap.kind a.src.cap.base a.src.cap.bits a.src.cap.rights a.src.cap.width a.src.cap.level a.src.cap.device b.id.core b.id.op b.id.part b.call.kind b.call.slot b.call.dest b.call.core b.call.mask b.call.object b.call.bits b.call.level b.call.offset b.call.count b.call.index b.call.addr b.region b.width b.src.id.core b.src.id.op b.src.id.part (idCells b.src.path) b.src.cap.kind b.src.cap.base b.src.cap.bits b.src.cap.rights b.src.cap.width b.src.cap.level b.src.cap.device = some (sameR a b) := by
  rw [g64_eq, s51' _ _ ha hb, Option.bind_some]
  unfold sameR
  repeat' split
  all_goals (refine congrArg some ?_; rw [bool_iff]; simp only [CQ] at * <;> grind)

theorem s66 (l m : List Node) (hl : l.length < 2 ^ 63) (pl : ∀ x ∈ l, x.path.length < 2 ^ 63) (pm : ∀ x ∈ m, x.path.length < 2 ^ 63) : g66 (l.map nodec) (m.map nodec) = some (sameL sameN l m) := by
  rw [g66_eq, List.length_map, List.length_map]
  unfold sameL
  by_cases h : l.length = m.length
  · rw [if_neg (show ¬ (cop .neq (l.length : Int) (m.length : Int)) = true by simp only [CQ]; omega), decide_eq_true h, Bool.true_and]
    have := scan_all (F := fun k i => g66L0 k (l.map nodec) (m.map nodec) i) (n := l.length) (fin := some true) (bad := some false) (at2 sameN l m) hl 0 (by omega)
      (fun k i _ hi => by
        have hi' : i < m.length := by omega
        refine (g66L0_eq ..).trans ?_
        rw [List.length_map, if_pos (lss_t hi)]
        refine (elem_nodes hi _).trans ?_
        refine (elem_nodes hi' _).trans ?_
        rw [inc_i hi hl, at2_at _ hi hi']
        generalize g66L0 k (l.map nodec) (m.map nodec) ((i + 1 : Nat) : Int) = X
        try simp only [elem_nodes hi, elem_nodes hi', nodeV, d2, d4, d8, d16, s51' _ _ (pl _ (List.getElem_mem hi)) (pm _ (List.getElem_mem hi')), Option.bind_some]
        skip
        repeat' split
        all_goals (simp only [eqlD, CQ] at * <;> grind))
      (fun k i hi => by refine (g66L0_eq ..).trans ?_; rw [List.length_map, if_neg (lss_f hi)])
    rw [Nat.sub_zero] at this
    refine Eq.trans this ?_
    cases (List.range' 0 l.length).all (at2 sameN l m) <;> rfl
  · rw [if_pos (show (cop .neq (l.length : Int) (m.length : Int)) = true by simp only [CQ]; omega), decide_eq_false h]
    rfl

def sameI : Int → Int → Bool := fun a b => decide (a = b)

theorem s67 (l m : List Int) (hl : l.length < 2 ^ 63) : g67 (intCells l) (intCells m) = some (sameL sameI l m) := by
  rw [g67_eq, ints_len, ints_len]
  unfold sameL
  by_cases h : l.length = m.length
  · rw [if_neg (show ¬ (cop .neq (l.length : Int) (m.length : Int)) = true by simp only [CQ]; omega), decide_eq_true h, Bool.true_and]
    have := scan_all (F := fun k i => g67L0 k (intCells l) (intCells m) i) (n := l.length) (fin := some true) (bad := some false) (at2 sameI l m) hl 0 (by omega)
      (fun k i _ hi => by
        have hi' : i < m.length := by omega
        refine (g67L0_eq ..).trans ?_
        rw [ints_len, if_pos (lss_t hi)]
        refine (elem_ints hi _).trans ?_
        refine (elem_ints hi' _).trans ?_
        rw [inc_i hi hl, at2_at _ hi hi']
        generalize g67L0 k (intCells l) (intCells m) ((i + 1 : Nat) : Int) = X
        try simp only [elem_ints hi, elem_ints hi', d2, d4, d8, d16, Option.bind_some]
        generalize l[i] = a
        generalize m[i] = b
        unfold sameI
        repeat' split
        all_goals (simp only [eqlD, CQ] at * <;> grind))
      (fun k i hi => by refine (g67L0_eq ..).trans ?_; rw [ints_len, if_neg (lss_f hi)])
    rw [Nat.sub_zero] at this
    refine Eq.trans this ?_
    cases (List.range' 0 l.length).all (at2 sameI l m) <;> rfl
  · rw [if_pos (show (cop .neq (l.length : Int) (m.length : Int)) = true by simp only [CQ]; omega), decide_eq_false h]
    rfl

def sameMv : Move → Move → Bool := fun a b => decide (a.region = b.region ∧ a.to = b.to)

theorem s68 (l m : List Move) (hl : l.length < 2 ^ 63) : g68 (l.map movec) (m.map movec) = some (sameL sameMv l m) := by
  rw [g68_eq, List.length_map, List.length_map]
  unfold sameL
  by_cases h : l.length = m.length
  · rw [if_neg (show ¬ (cop .neq (l.length : Int) (m.length : Int)) = true by simp only [CQ]; omega), decide_eq_true h, Bool.true_and]
    have := scan_all (F := fun k i => g68L0 k (l.map movec) (m.map movec) i) (n := l.length) (fin := some true) (bad := some false) (at2 sameMv l m) hl 0 (by omega)
      (fun k i _ hi => by
        have hi' : i < m.length := by omega
        refine (g68L0_eq ..).trans ?_
        rw [List.length_map, if_pos (lss_t hi)]
        refine (elem_moves hi _).trans ?_
        refine (elem_moves hi' _).trans ?_
        rw [inc_i hi hl, at2_at _ hi hi']
        generalize g68L0 k (l.map movec) (m.map movec) ((i + 1 : Nat) : Int) = X
        try simp only [elem_moves hi, elem_moves hi', d2, d4, d8, d16, Option.bind_some]
        generalize l[i] = a
        generalize m[i] = b
        unfold sameMv
        repeat' split
        all_goals (simp only [eqlD, CQ] at * <;> grind))
      (fun k i hi => by refine (g68L0_eq ..).trans ?_; rw [List.length_map, if_neg (lss_f hi)])
    rw [Nat.sub_zero] at this
    refine Eq.trans this ?_
    cases (List.range' 0 l.length).all (at2 sameMv l m) <;> rfl
  · rw [if_pos (show (cop .neq (l.length : Int) (m.length : Int)) = true by simp only [CQ]; omega), decide_eq_false h]
    rfl

def sameS : Slot → Slot → Bool := fun a b => decide (a.op = b.op) && decide (a.lock.core = b.lock.core ∧ a.lock.op = b.lock.op ∧ a.lock.part = b.lock.part) && sameN a.node b.node

theorem s140 (l m : List Slot) (hl : l.length < 2 ^ 63) (pl : ∀ x ∈ l, x.node.path.length < 2 ^ 63) (pm : ∀ x ∈ m, x.node.path.length < 2 ^ 63) : g140 (l.map slotc) (m.map slotc) = some (sameL sameS l m) := by
  rw [g140_eq, List.length_map, List.length_map]
  unfold sameL
  by_cases h : l.length = m.length
  · rw [if_neg (show ¬ (cop .neq (l.length : Int) (m.length : Int)) = true by simp only [CQ]; omega), decide_eq_true h, Bool.true_and]
    have := scan_all (F := fun k i => g140L0 k (l.map slotc) (m.map slotc) i) (n := l.length) (fin := some true) (bad := some false) (at2 sameS l m) hl 0 (by omega)
      (fun k i _ hi => by
        have hi' : i < m.length := by omega
        refine (g140L0_eq ..).trans ?_
        rw [List.length_map, if_pos (lss_t hi)]
        refine (elem_slots hi _).trans ?_
        refine (elem_slots hi' _).trans ?_
        rw [inc_i hi hl, at2_at _ hi hi']
        generalize g140L0 k (l.map slotc) (m.map slotc) ((i + 1 : Nat) : Int) = X
        try simp only [elem_slots hi, elem_slots hi', slotV, d2, d4, d8, d16, s51' _ _ (pl _ (List.getElem_mem hi)) (pm _ (List.getElem_mem hi')), Option.bind_some]
        generalize l[i] = a
        generalize m[i] = b
        unfold sameS
        repeat' split
        all_goals (simp only [eqlD, CQ] at * <;> grind))
      (fun k i hi => by refine (g140L0_eq ..).trans ?_; rw [List.length_map, if_neg (lss_f hi)])
    rw [Nat.sub_zero] at this
    refine Eq.trans this ?_
    cases (List.range' 0 l.length).all (at2 sameS l m) <;> rfl
  · rw [if_pos (show (cop .neq (l.length : Int) (m.length : Int)) = true by simp only [CQ]; omega), decide_eq_false h]
    rfl

theorem s141 (l m : List Req) (hl : l.length < 2 ^ 63) (pl : ∀ x ∈ l, x.src.path.length < 2 ^ 63) (pm : ∀ x ∈ m, x.src.path.length < 2 ^ 63) : g141 (l.map reqc) (m.map reqc) = some (sameL sameR l m) := by
  rw [g141_eq, List.length_map, List.length_map]
  unfold sameL
  by_cases h : l.length = m.length
  · rw [if_neg (show ¬ (cop .neq (l.length : Int) (m.length : Int)) = true by simp only [CQ]; omega), decide_eq_true h, Bool.true_and]
    have := scan_all (F := fun k i => g141L0 k (l.map reqc) (m.map reqc) i) (n := l.length) (fin := some true) (bad := some false) (at2 sameR l m) hl 0 (by omega)
      (fun k i _ hi => by
        have hi' : i < m.length := by omega
        refine (g141L0_eq ..).trans ?_
        rw [List.length_map, if_pos (lss_t hi)]
        refine (elem_reqs hi _).trans ?_
        refine (elem_reqs hi' _).trans ?_
        rw [inc_i hi hl, at2_at _ hi hi']
        generalize g141L0 k (l.map reqc) (m.map reqc) ((i + 1 : Nat) : Int) = X
        try simp only [elem_reqs hi, elem_reqs hi', reqV, d2, d4, d8, d16, s64 _ _ (pl _ (List.getElem_mem hi)) (pm _ (List.getElem_mem hi')), Option.bind_some]
        skip
        repeat' split
        all_goals (simp only [eqlD, CQ] at * <;> grind))
      (fun k i hi => by refine (g141L0_eq ..).trans ?_; rw [List.length_map, if_neg (lss_f hi)])
    rw [Nat.sub_zero] at this
    refine Eq.trans this ?_
    cases (List.range' 0 l.length).all (at2 sameR l m) <;> rfl
  · rw [if_pos (show (cop .neq (l.length : Int) (m.length : Int)) = true by simp only [CQ]; omega), decide_eq_false h]
    rfl

def sameMk : Mark → Mark → Bool := fun a b => decide (a.region = b.region ∧ a.op.core = b.op.core ∧ a.op.op = b.op.op ∧ a.op.part = b.op.part)

theorem s142 (l m : List Mark) (hl : l.length < 2 ^ 63) : g142 (l.map markc) (m.map markc) = some (sameL sameMk l m) := by
  rw [g142_eq, List.length_map, List.length_map]
  unfold sameL
  by_cases h : l.length = m.length
  · rw [if_neg (show ¬ (cop .neq (l.length : Int) (m.length : Int)) = true by simp only [CQ]; omega), decide_eq_true h, Bool.true_and]
    have := scan_all (F := fun k i => g142L0 k (l.map markc) (m.map markc) i) (n := l.length) (fin := some true) (bad := some false) (at2 sameMk l m) hl 0 (by omega)
      (fun k i _ hi => by
        have hi' : i < m.length := by omega
        refine (g142L0_eq ..).trans ?_
        rw [List.length_map, if_pos (lss_t hi)]
        refine (elem_marks hi _).trans ?_
        refine (elem_marks hi' _).trans ?_
        rw [inc_i hi hl, at2_at _ hi hi']
        generalize g142L0 k (l.map markc) (m.map markc) ((i + 1 : Nat) : Int) = X
        try simp only [elem_marks hi, elem_marks hi', d2, d4, d8, d16, Option.bind_some]
        generalize l[i] = a
        generalize m[i] = b
        unfold sameMk
        repeat' split
        all_goals (simp only [eqlD, CQ] at * <;> grind))
      (fun k i hi => by refine (g142L0_eq ..).trans ?_; rw [List.length_map, if_neg (lss_f hi)])
    rw [Nat.sub_zero] at this
    refine Eq.trans this ?_
    cases (List.range' 0 l.length).all (at2 sameMk l m) <;> rfl
  · rw [if_pos (show (cop .neq (l.length : Int) (m.length : Int)) = true by simp only [CQ]; omega), decide_eq_false h]
    rfl

def sameA : Ans → Ans → Bool := fun a b => decide (a.op = b.op ∧ a.err = b.err)

theorem s143 (l m : List Ans) (hl : l.length < 2 ^ 63) : g143 (l.map ansc) (m.map ansc) = some (sameL sameA l m) := by
  rw [g143_eq, List.length_map, List.length_map]
  unfold sameL
  by_cases h : l.length = m.length
  · rw [if_neg (show ¬ (cop .neq (l.length : Int) (m.length : Int)) = true by simp only [CQ]; omega), decide_eq_true h, Bool.true_and]
    have := scan_all (F := fun k i => g143L0 k (l.map ansc) (m.map ansc) i) (n := l.length) (fin := some true) (bad := some false) (at2 sameA l m) hl 0 (by omega)
      (fun k i _ hi => by
        have hi' : i < m.length := by omega
        refine (g143L0_eq ..).trans ?_
        rw [List.length_map, if_pos (lss_t hi)]
        refine (elem_anss hi _).trans ?_
        refine (elem_anss hi' _).trans ?_
        rw [inc_i hi hl, at2_at _ hi hi']
        generalize g143L0 k (l.map ansc) (m.map ansc) ((i + 1 : Nat) : Int) = X
        try simp only [elem_anss hi, elem_anss hi', d2, d4, d8, d16, Option.bind_some]
        generalize l[i] = a
        generalize m[i] = b
        unfold sameA
        repeat' split
        all_goals (simp only [eqlD, CQ] at * <;> grind))
      (fun k i hi => by refine (g143L0_eq ..).trans ?_; rw [List.length_map, if_neg (lss_f hi)])
    rw [Nat.sub_zero] at this
    refine Eq.trans this ?_
    cases (List.range' 0 l.length).all (at2 sameA l m) <;> rfl
  · rw [if_pos (show (cop .neq (l.length : Int) (m.length : Int)) = true by simp only [CQ]; omega), decide_eq_false h]
    rfl

def sameE : Entry → Entry → Bool := fun a b => decide (a.core = b.core) && decide (a.slot = b.slot) && sameN a.node b.node

theorem s144 (l m : List Entry) (hl : l.length < 2 ^ 63) (pl : ∀ x ∈ l, x.node.path.length < 2 ^ 63) (pm : ∀ x ∈ m, x.node.path.length < 2 ^ 63) : g144 (l.map entryc) (m.map entryc) = some (sameL sameE l m) := by
  rw [g144_eq, List.length_map, List.length_map]
  unfold sameL
  by_cases h : l.length = m.length
  · rw [if_neg (show ¬ (cop .neq (l.length : Int) (m.length : Int)) = true by simp only [CQ]; omega), decide_eq_true h, Bool.true_and]
    have := scan_all (F := fun k i => g144L0 k (l.map entryc) (m.map entryc) i) (n := l.length) (fin := some true) (bad := some false) (at2 sameE l m) hl 0 (by omega)
      (fun k i _ hi => by
        have hi' : i < m.length := by omega
        refine (g144L0_eq ..).trans ?_
        rw [List.length_map, if_pos (lss_t hi)]
        refine (elem_entries hi _).trans ?_
        refine (elem_entries hi' _).trans ?_
        rw [inc_i hi hl, at2_at _ hi hi']
        generalize g144L0 k (l.map entryc) (m.map entryc) ((i + 1 : Nat) : Int) = X
        try simp only [elem_entries hi, elem_entries hi', entryV, d2, d4, d8, d16, s51' _ _ (pl _ (List.getElem_mem hi)) (pm _ (List.getElem_mem hi')), Option.bind_some]
        generalize l[i] = a
        generalize m[i] = b
        unfold sameE
        repeat' split
        all_goals (simp only [eqlD, CQ] at * <;> grind))
      (fun k i hi => by refine (g144L0_eq ..).trans ?_; rw [List.length_map, if_neg (lss_f hi)])
    rw [Nat.sub_zero] at this
    refine Eq.trans this ?_
    cases (List.range' 0 l.length).all (at2 sameE l m) <;> rfl
  · rw [if_pos (show (cop .neq (l.length : Int) (m.length : Int)) = true by simp only [CQ]; omega), decide_eq_false h]
    rfl

def sameV (a b : View) : Bool := cop .eql a.number b.number && (sameL sameI a.members b.members && sameL sameI a.owners b.owners)
def sameSt (a b : State) : Bool := sameL sameS a.slots b.slots && (sameL sameR a.pending b.pending && (sameL sameMk a.marks b.marks && (sameL sameA a.answers b.answers && (sameL sameE a.entries b.entries && decide (a.commits = b.commits)))))
def sameRep (a b : Report) : Bool := cop .eql a.core b.core && (sameV a.view b.view && (sameSt a.state b.state && ((a.ready == b.ready) && (sameV a.next b.next && sameSt a.proposal b.proposal))))

theorem s69 (a b : View) (h : a.Fits) : g69 a.number (intCells a.members) (intCells a.owners) b.number (intCells b.members) (intCells b.owners) = some (sameV a b) := by
  rw [g69_eq, s67 _ _ h.members, s67 _ _ h.owners]
  exact and_if _ (and_if _ rfl)

theorem s70 (a b : State) (h : a.Fits) (h' : b.Fits) : g70 (a.slots.map slotc) (a.pending.map reqc) (a.marks.map markc) (a.answers.map ansc) (a.entries.map entryc) (idCells a.commits) (b.slots.map slotc) (b.pending.map reqc) (b.marks.map markc) (b.answers.map ansc) (b.entries.map entryc) (idCells b.commits) = some (sameSt a b) := by
  rw [g70_eq, s140 _ _ h.slots h.slot h'.slot, s141 _ _ h.pending h.req h'.req, s142 _ _ h.marks, s143 _ _ h.answers, s144 _ _ h.entries h.entry h'.entry, s65 _ _ h.commits h'.commits]
  exact and_if _ (and_if _ (and_if _ (and_if _ (and_if _ rfl))))

theorem s71 (a b : Report) (h : a.Fits) (h' : b.Fits) : g71 a.core a.view.number (intCells a.view.members) (intCells a.view.owners) (a.state.slots.map slotc) (a.state.pending.map reqc) (a.state.marks.map markc) (a.state.answers.map ansc) (a.state.entries.map entryc) (idCells a.state.commits) a.ready a.next.number (intCells a.next.members) (intCells a.next.owners) (a.proposal.slots.map slotc) (a.proposal.pending.map reqc) (a.proposal.marks.map markc) (a.proposal.answers.map ansc) (a.proposal.entries.map entryc) (idCells a.proposal.commits) b.core b.view.number (intCells b.view.members) (intCells b.view.owners) (b.state.slots.map slotc) (b.state.pending.map reqc) (b.state.marks.map markc) (b.state.answers.map ansc) (b.state.entries.map entryc) (idCells b.state.commits) b.ready b.next.number (intCells b.next.members) (intCells b.next.owners) (b.proposal.slots.map slotc) (b.proposal.pending.map reqc) (b.proposal.marks.map markc) (b.proposal.answers.map ansc) (b.proposal.entries.map entryc) (idCells b.proposal.commits) = some (sameRep a b) := by
  rw [g71_eq, s69 _ _ h.view, s70 _ _ h.state h'.state, s69 _ _ h.next, s70 _ _ h.proposal h'.proposal]
  exact and_if _ (and_if _ (and_if _ (and_if _ (and_if _ rfl))))

theorem nif (c : Bool) {y : Bool} {x : Option Bool} (h : x = some y) : (if c = true then some false else x) = some (!c && y) := by cases c <;> simp [h]

def sameM (a b : Msg) : Bool := !cop .neq a.kind b.kind && (!cop .neq a.view b.view && (!cop .neq a.frm b.frm && (!cop .neq a.to b.to && (!cop .neq a.round b.round && (!cop .neq a.region b.region && (!cop .neq a.slot b.slot && (!(!((cop .eql a.op.core b.op.core) && ((cop .eql a.op.op b.op.op) && ((cop .eql a.op.part b.op.part) && true)))) && (!cop .neq a.err b.err && (!(!(a.settled == b.settled)) && (!cop .neq a.base b.base && (sameR a.req b.req && (decide (a.ids = b.ids) && (sameL sameN a.nodes b.nodes && (sameL sameI a.cores b.cores && (sameL sameMv a.moves b.moves && (sameV a.next b.next && (sameSt a.state b.state && sameRep a.report b.report)))))))))))))))))

theorem s17 (a b : Msg) (h : a.Fits) (h' : b.Fits) : g17 a.kind a.view a.frm a.to a.round a.region a.slot a.op.core a.op.op a.op.part a.err a.settled a.req.id.core a.req.id.op a.req.id.part a.req.call.kind a.req.call.slot a.req.call.dest a.req.call.core a.req.call.mask a.req.call.object a.req.call.bits a.req.call.level a.req.call.offset a.req.call.count a.req.call.index a.req.call.addr a.req.region a.req.width a.req.src.id.core a.req.src.id.op a.req.src.id.part (idCells a.req.src.path) a.req.src.cap.kind a.req.src.cap.base a.req.src.cap.bits a.req.src.cap.rights a.req.src.cap.width a.req.src.cap.level a.req.src.cap.device (idCells a.ids) (a.nodes.map nodec) (intCells a.cores) (a.moves.map movec) a.base a.next.number (intCells a.next.members) (intCells a.next.owners) (a.state.slots.map slotc) (a.state.pending.map reqc) (a.state.marks.map markc) (a.state.answers.map ansc) (a.state.entries.map entryc) (idCells a.state.commits) a.report.core a.report.view.number (intCells a.report.view.members) (intCells a.report.view.owners) (a.report.state.slots.map slotc) (a.report.state.pending.map reqc) (a.report.state.marks.map markc) (a.report.state.answers.map ansc) (a.report.state.entries.map entryc) (idCells a.report.state.commits) a.report.ready a.report.next.number (intCells a.report.next.members) (intCells a.report.next.owners) (a.report.proposal.slots.map slotc) (a.report.proposal.pending.map reqc) (a.report.proposal.marks.map markc) (a.report.proposal.answers.map ansc) (a.report.proposal.entries.map entryc) (idCells a.report.proposal.commits) b.kind b.view b.frm b.to b.round b.region b.slot b.op.core b.op.op b.op.part b.err b.settled b.req.id.core b.req.id.op b.req.id.part b.req.call.kind b.req.call.slot b.req.call.dest b.req.call.core b.req.call.mask b.req.call.object b.req.call.bits b.req.call.level b.req.call.offset b.req.call.count b.req.call.index b.req.call.addr b.req.region b.req.width b.req.src.id.core b.req.src.id.op b.req.src.id.part (idCells b.req.src.path) b.req.src.cap.kind b.req.src.cap.base b.req.src.cap.bits b.req.src.cap.rights b.req.src.cap.width b.req.src.cap.level b.req.src.cap.device (idCells b.ids) (b.nodes.map nodec) (intCells b.cores) (b.moves.map movec) b.base b.next.number (intCells b.next.members) (intCells b.next.owners) (b.state.slots.map slotc) (b.state.pending.map reqc) (b.state.marks.map markc) (b.state.answers.map ansc) (b.state.entries.map entryc) (idCells b.state.commits) b.report.core b.report.view.number (intCells b.report.view.members) (intCells b.report.view.owners) (b.report.state.slots.map slotc) (b.report.state.pending.map reqc) (b.report.state.marks.map markc) (b.report.state.answers.map ansc) (b.report.state.entries.map entryc) (idCells b.report.state.commits) b.report.ready b.report.next.number (intCells b.report.next.members) (intCells b.report.next.owners) (b.report.proposal.slots.map slotc) (b.report.proposal.pending.map reqc) (b.report.proposal.marks.map markc) (b.report.proposal.answers.map ansc) (b.report.proposal.entries.map entryc) (idCells b.report.proposal.commits) = some (sameM a b) := by
  rw [g17_eq, s64 _ _ h.req h'.req, s65 _ _ h.ids h'.ids, s66 _ _ h.nodes h.node h'.node, s67 _ _ h.cores, s68 _ _ h.moves, s69 _ _ h.next, s70 _ _ h.state h'.state, s71 _ _ h.report h'.report]
  exact nif _ (nif _ (nif _ (nif _ (nif _ (nif _ (nif _ (nif _ (nif _ (nif _ (nif _ (and_if _ (and_if _ (and_if _ (and_if _ (and_if _ (and_if _ (and_if _ (rfl))))))))))))))))))

/-! a part is the same as itself, or as zero -/
theorem sameL_refl {α : Type} (q : α → α → Bool) (hq : ∀ a, q a a = true) (l : List α) : sameL q l l = true := by
  unfold sameL
  rw [decide_eq_true rfl, Bool.true_and, List.all_eq_true]
  intro i hi
  have hi' : i < l.length := by simpa [List.mem_range'] using hi
  rw [at2_at q hi' hi', hq]

theorem sameL_nil {α : Type} (q : α → α → Bool) (l : List α) : sameL q l [] = decide (l.length = 0) := by
  unfold sameL
  cases l with
  | nil => rfl
  | cons a r => simp

theorem sameN_refl (a : Node) : sameN a a = true := by simp [sameN]
theorem sameR_refl (a : Req) : sameR a a = true := by simp [sameR, sameN_refl]
theorem sameR_zero (a : Req) : sameR a noReq = zReq a := by
  have : decide (a.id.core = noReq.id.core ∧ a.id.op = noReq.id.op ∧ a.id.part = noReq.id.part) = decide (a.id = zid) := by
    rw [bool_iff, decide_eq_true_eq, decide_eq_true_eq]
    constructor
    · rintro ⟨h1, h2, h3⟩
      rcases h : a.id with ⟨x, y, z⟩
      rw [h] at h1 h2 h3
      simp only [noReq, zid] at h1 h2 h3
      subst h1 h2 h3
      rfl
    · intro h; rw [h]; exact ⟨rfl, rfl, rfl⟩
  unfold sameR zReq
  rw [this]
  rfl
theorem sameV_refl (a : View) : sameV a a = true := by
  simp [sameV, sameL_refl sameI (fun a => by simp [sameI]), cop]
theorem sameV_zero (a : View) : sameV a noView = zView a := by
  unfold sameV zView
  rw [show noView.members = [] from rfl, show noView.owners = [] from rfl, sameL_nil, sameL_nil, Bool.and_assoc]
  rfl
theorem sameSt_refl (a : State) : sameSt a a = true := by
  simp [sameSt, sameL_refl sameS (fun a => by simp [sameS, sameN_refl]), sameL_refl sameR sameR_refl, sameL_refl sameMk (fun a => by simp [sameMk]), sameL_refl sameA (fun a => by simp [sameA]), sameL_refl sameE (fun a => by simp [sameE, sameN_refl])]
theorem sameSt_zero (a : State) : sameSt a noState = zState a := by
  have : decide (a.commits = ([] : List Id)) = decide (a.commits.length = 0) := by
    rw [bool_iff, decide_eq_true_eq, decide_eq_true_eq, List.length_eq_zero_iff]
  unfold sameSt zState
  rw [show noState.slots = [] from rfl, show noState.pending = [] from rfl, show noState.marks = [] from rfl, show noState.answers = [] from rfl, show noState.entries = [] from rfl, show noState.commits = [] from rfl, sameL_nil, sameL_nil, sameL_nil, sameL_nil, sameL_nil, this]
  simp only [Bool.and_assoc]
theorem sameRep_refl (a : Report) : sameRep a a = true := by simp [sameRep, sameV_refl, sameSt_refl, cop]
theorem sameRep_zero (a : Report) : sameRep a noReport = zReport a := by
  unfold sameRep zReport
  rw [show noReport.view = noView from rfl, show noReport.next = noView from rfl, show noReport.state = noState from rfl, show noReport.proposal = noState from rfl, sameV_zero, sameV_zero, sameSt_zero, sameSt_zero]
  have e : (a.ready == noReport.ready) = !a.ready := by cases a.ready <;> rfl
  rw [e]
  simp only [Bool.and_assoc]
  rfl

theorem sameM_refl (a : Msg) : sameM a a = true := by
  simp [sameM, sameR_refl, sameL_refl sameN sameN_refl, sameL_refl sameI (fun a => by simp [sameI]), sameL_refl sameMv (fun a => by simp [sameMv]), sameV_refl, sameSt_refl, sameRep_refl, cop]

end Go.Proofs.YtceopohbfkamiaaGreat
end
