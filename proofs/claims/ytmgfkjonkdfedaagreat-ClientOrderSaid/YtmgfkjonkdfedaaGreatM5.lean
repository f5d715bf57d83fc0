/- End24, V11a, V11b, V12a, V12d, V18a, V18b, V18c, V18d, V18e, V18f, V18g, V18h, V18i, L24a, L24b, L24c, L24d, L24e: texts of the proof, put together. -/
import Derived.Test.YtmgfkjonkdfedaaGreatRows
import Derived.Test.YtmgfkjonkdfedaaGreatChecked
import Derived.Test.YtmgfkjonkdfedaaGreatM4
import Derived.JoinedOf
import Derived.JoinedAt
import Derived.RowKit3
import Derived.KernelRfl
import Derived.Test.YtmgfkjonkdfedaaGreatF24b

section
namespace Go.Proofs.YtmgfkjonkdfedaaGreat
open Go Go.AM
set_option maxRecDepth 100000

theorem behind : ∃ ws, behindMainWord (wordsSigns Tryz.prog.initOrder.toList) = "cut".toList :: ws := by
  have h : Tryz.prog.initOrder.toList = _ := String.toList_ofList (l := _)
  rw [h]
  exact behind_words (by kernel_rfl) (by kernel_rfl) (by kernel_rfl) (by kernel_rfl) (by kernel_rfl) (by kernel_rfl)

theorem enters : Tryz.prog.mayEnter = true := behind.elim fun _ h => Go.AM.enters_of h (by kernel_rfl) (by kernel_rfl) (by kernel_rfl)
theorem lifts : Tryz.prog.liftsFinal = false := behind.elim fun _ h => Go.AM.final_of h
theorem makeIs : Tryz.prog.make = some .cut := behind.elim fun _ h => Go.AM.make_of h
theorem laid : laidOutB Tryz.prog = true := by kernel_rfl
theorem ownKnobOk : ownKnob Tryz.prog.godebug = none := by kernel_rfl

theorem ty_int {d : Nat} {cs : List AV} (h : TyR Tryz.prog (d + 1) 3 cs) : ∃ z, cs = [I z] := by
  simp only [TyR, Tryz.underlying3] at h
  obtain ⟨z, h, _⟩ := h
  exact ⟨z, h⟩

theorem ty_bool {d : Nat} {cs : List AV} (h : TyR Tryz.prog (d + 1) 4 cs) : ∃ z, cs = [B z] := by
  simp only [TyR, Tryz.underlying4] at h
  exact h

theorem ty_cap {d : Nat} {cs : List AV} (h : TyR Tryz.prog (d + 2) 30 cs) : ∃ k b s r w l dv, cs = [I k, I b, I s, I r, I w, I l, B dv] := by
  rw [TyR] at h
  simp only [Tryz.underlying30] at h
  obtain ⟨ps, rfl, hl, hp⟩ := h
  obtain ⟨p0, p1, p2, p3, p4, p5, p6, rfl⟩ : ∃ p0 p1 p2 p3 p4 p5 p6, ps = [p0, p1, p2, p3, p4, p5, p6] := by
    match ps, hl with
    | [p0, p1, p2, p3, p4, p5, p6], _ => exact ⟨p0, p1, p2, p3, p4, p5, p6, rfl⟩
  obtain ⟨k, rfl⟩ := ty_int (hp 0 _ _ rfl rfl)
  obtain ⟨b, rfl⟩ := ty_int (hp 1 _ _ rfl rfl)
  obtain ⟨s, rfl⟩ := ty_int (hp 2 _ _ rfl rfl)
  obtain ⟨r, rfl⟩ := ty_int (hp 3 _ _ rfl rfl)
  obtain ⟨w, rfl⟩ := ty_int (hp 4 _ _ rfl rfl)
  obtain ⟨l, rfl⟩ := ty_int (hp 5 _ _ rfl rfl)
  obtain ⟨dv, rfl⟩ := ty_bool (hp 6 _ _ rfl rfl)
  exact ⟨k, b, s, r, w, l, dv, rfl⟩

theorem arg_int {x : AV} (h : ArgTy Tryz.prog 12 3 x) : ∃ z, x = I z := by
  simp only [ArgTy, Tryz.underlying3] at h
  obtain ⟨z, hz⟩ := ty_int h.2
  exact ⟨z, by simpa using hz⟩

theorem arg_cap {x : AV} (h : ArgTy Tryz.prog 12 30 x) : ∃ k b s r w l d, x = .agg [I k, I b, I s, I r, I w, I l, B d] := by
  simp only [ArgTy, Tryz.underlying30] at h
  obtain ⟨cs, rfl, h⟩ := h
  obtain ⟨k, b, s, r, w, l, d, rfl⟩ := ty_cap h
  exact ⟨k, b, s, r, w, l, d, rfl⟩

/-! lists as arguments -/
def u8c (z : Int) : List AV := [AV.val (.int .u8 z)]
def byteCells (l : List Int) : List (List AV) := l.map u8c
def Bytes (l : List Int) : Prop := ∀ z ∈ l, 0 ≤ z ∧ z ≤ 255
def i64c (z : Int) : List AV := [I z]
def intCells (l : List Int) : List (List AV) := l.map i64c

structure Id where
  core : Int
  op : Int
  part : Int
  deriving DecidableEq

def idc (i : Id) : List AV := [I i.core, I i.op, I i.part]
def idCells (l : List Id) : List (List AV) := l.map idc

theorem list_lift {α β : Type} {f : α → β} {p : α → Prop} : ∀ (xs : List β), (∀ x ∈ xs, ∃ a, x = f a ∧ p a) → ∃ l : List α, xs = l.map f ∧ ∀ a ∈ l, p a
  | [], _ => ⟨[], rfl, by simp⟩
  | x :: xs, h => by
    obtain ⟨a, h1, h2⟩ := h x (by simp)
    obtain ⟨l, h3, h4⟩ := list_lift xs fun y hy => h y (by simp [hy])
    refine ⟨a :: l, by rw [h1, h3]; rfl, fun b hb => ?_⟩
    rcases List.mem_cons.1 hb with rfl | hb
    · exact h2
    · exact h4 b hb

theorem cells5 : Tryz.prog.cellsOf 5 = 1 := by kernel_rfl
theorem cells3 : Tryz.prog.cellsOf 3 = 1 := by kernel_rfl
theorem cells25 : Tryz.prog.cellsOf 25 = 3 := by kernel_rfl

theorem lit8 {z : Int} (h : (Lit.int .u8 z).wf = true) : 0 ≤ z ∧ z ≤ 255 := by
  have h1 : IntKind.u8.min = 0 := by decide
  have h2 : IntKind.u8.max = 255 := by decide
  simp [Lit.wf, h1, h2] at h
  omega

theorem arg_ints {x : AV} (h : ArgTy Tryz.prog 12 35 x) : ∃ l, x = .slice false 1 (intCells l) ∧ l.length ≤ maxLen := by
  simp only [ArgTy, Tryz.underlying35] at h
  have hh := h.2
  rw [TyR] at hh
  simp only [Tryz.underlying35, cells3] at hh
  obtain ⟨xs, h1, h2, h3⟩ := hh
  obtain ⟨l, rfl, h5⟩ := list_lift (f := i64c) (p := fun _ => True) xs fun y hy => by
    have := h3 y hy
    rw [TyR] at this
    simp only [Tryz.underlying3] at this
    obtain ⟨z, rfl, hz⟩ := this
    exact ⟨z, rfl, trivial⟩
  exact ⟨l, by simpa [intCells] using h1, by simpa using h2⟩

theorem ty_id {d : Nat} {cs : List AV} (h : TyR Tryz.prog (d + 2) 25 cs) : ∃ i : Id, cs = idc i := by
  rw [TyR] at h
  simp only [Tryz.underlying25] at h
  obtain ⟨ps, rfl, hl, hp⟩ := h
  obtain ⟨p0, p1, p2, rfl⟩ : ∃ p0 p1 p2, ps = [p0, p1, p2] := by
    match ps, hl with
    | [p0, p1, p2], _ => exact ⟨p0, p1, p2, rfl⟩
  obtain ⟨k, rfl⟩ := ty_int (hp 0 _ _ rfl rfl)
  obtain ⟨b, rfl⟩ := ty_int (hp 1 _ _ rfl rfl)
  obtain ⟨s, rfl⟩ := ty_int (hp 2 _ _ rfl rfl)
  exact ⟨⟨k, b, s⟩, rfl⟩

theorem ty_ids {d : Nat} {cs : List AV} (h : TyR Tryz.prog (d + 3) 28 cs) : ∃ l, cs = [.slice false 3 (idCells l)] ∧ l.length ≤ maxLen := by
  rw [TyR] at h
  simp only [Tryz.underlying28, cells25] at h
  obtain ⟨xs, h1, h2, h3⟩ := h
  obtain ⟨l, rfl, h5⟩ := list_lift (f := idc) (p := fun _ => True) xs fun y hy => by
    obtain ⟨i, hi⟩ := ty_id (h3 y hy)
    exact ⟨i, hi, trivial⟩
  exact ⟨l, h1, by simpa using h2⟩

theorem arg_id {x : AV} (h : ArgTy Tryz.prog 12 25 x) : ∃ a b c, x = .agg [I a, I b, I c] := by
  simp only [ArgTy, Tryz.underlying25] at h
  obtain ⟨cs, rfl, h⟩ := h
  obtain ⟨i, rfl⟩ := ty_id h
  exact ⟨i.core, i.op, i.part, rfl⟩

theorem arg_ids {x : AV} (h : ArgTy Tryz.prog 12 28 x) : ∃ l, x = .slice false 3 (idCells l) ∧ l.length ≤ maxLen := by
  simp only [ArgTy, Tryz.underlying28] at h
  obtain ⟨l, h1, h2⟩ := ty_ids h.2
  exact ⟨l, by simpa using h1, h2⟩

theorem arg_node {x : AV} (h : ArgTy Tryz.prog 12 32 x) : ∃ a b c p k bs s r w l d, x = .agg [I a, I b, I c, .slice false 3 (idCells p), I k, I bs, I s, I r, I w, I l, B d] ∧ p.length ≤ maxLen := by
  simp only [ArgTy, Tryz.underlying32] at h
  obtain ⟨cs, rfl, h⟩ := h
  rw [TyR] at h
  simp only [Tryz.underlying32] at h
  obtain ⟨ps, rfl, hl, hp⟩ := h
  obtain ⟨p0, p1, p2, rfl⟩ : ∃ p0 p1 p2, ps = [p0, p1, p2] := by
    match ps, hl with
    | [p0, p1, p2], _ => exact ⟨p0, p1, p2, rfl⟩
  obtain ⟨i, rfl⟩ := ty_id (hp 0 _ _ rfl rfl)
  obtain ⟨l, rfl, hl2⟩ := ty_ids (hp 1 _ _ rfl rfl)
  obtain ⟨k, b, s, r, w, lv, dv, rfl⟩ := ty_cap (hp 2 _ _ rfl rfl)
  exact ⟨i.core, i.op, i.part, l, k, b, s, r, w, lv, dv, rfl, hl2⟩

def parTs : List TypeId := [22, 23, 34, 35, 48]

theorem parOk (t : TypeId) (h : parTs.contains t = true) : fineB Tryz.prog 12 t = true ∧ t < Tryz.prog.types.size ∧ Tryz.prog.readableRec t = true := by
  have h2 : parTs.all (fun t => fineB Tryz.prog 12 t && decide (t < Tryz.prog.types.size) && Tryz.prog.readableRec t) = true := by kernel_rfl
  rw [List.all_eq_true] at h2
  have := h2 t (by simpa using h)
  simpa [and_assoc] using this

end Go.Proofs.YtmgfkjonkdfedaaGreat
end

section
namespace Go.Proofs.YtmgfkjonkdfedaaGreat
open Go Go.AM
set_option linter.unusedSimpArgs false
set_option linter.unusedVariables false
set_option maxRecDepth 100000

/-- captype.sizeAllowed -/
def sizeOk (k b : Int) : Bool := decide ((k = 1 ∧ 6 ≤ b ∧ b ≤ 40) ∨ (k = 2 ∧ 12 ≤ b ∧ b ≤ 40) ∨ (k = 3 ∧ b = 12) ∨ (k = 4 ∧ b = 6) ∨ (k = 5 ∧ b = 10) ∨ (k = 6 ∧ b = 16))

/-- multikernelref10.fixed -/
def fixedOf (k : Int) : Int := if k = 3 then 12 else if k = 4 then 6 else if k = 5 then 10 else if k = 6 then 16 else 0

/-- captype.formatAllowed -/
def formOk (w l : Int) : Bool := decide ((w = 32 ∧ 0 ≤ l ∧ l ≤ 1) ∨ (w = 39 ∧ 0 ≤ l ∧ l ≤ 2))

/-- memrange.Valid -/
def rngOk (a b : Int) : Bool := decide (6 ≤ b ∧ b ≤ 40 ∧ 0 ≤ a ∧ a % 2 ^ b.toNat = 0 ∧ a + 2 ^ b.toNat ≤ 1099511627776)

theorem pow_hi {b : Int} (h : b ≤ 40) : (2 : Int) ^ b.toNat ≤ 1099511627776 := by
  have := pow_le2 (m := b.toNat) (n := 40) (by omega)
  have e : (2 : Int) ^ 40 = 1099511627776 := by decide
  omega

theorem rem_pow {a : Int} {n : Nat} (h : 0 ≤ a) : iop .rem .i64 a (2 ^ n) = a % 2 ^ n := Int.tmod_eq_emod_of_nonneg h

theorem sub_hi {b : Int} (h : b ≤ 40) : iop .sub .i64 1099511627776 (2 ^ b.toNat) = 1099511627776 - 2 ^ b.toNat := by
  have := pow_hi h
  have := pow_pos2 b.toNat
  exact wrap_of (by omega) (by omega)

/-- memrange.End -/
def rngEnd (a b : Int) : Int := if rngOk a b = true then a + 2 ^ b.toNat else 0

theorem rngOk_of {a b : Int} (h : rngOk a b = true) : 6 ≤ b ∧ b ≤ 40 ∧ 0 ≤ a ∧ a % 2 ^ b.toNat = 0 ∧ a + 2 ^ b.toNat ≤ 1099511627776 := by simpa [rngOk] using h

theorem end_val {a b : Int} (h : rngOk a b = true) : iop .add .i64 a (iop .shl .i64 1 b) = rngEnd a b := by
  obtain ⟨h1, h2, h3, h4, h5⟩ := rngOk_of h
  have := pow_pos2 b.toNat
  rw [shl1 (by omega), add_i (by omega) (by omega), rngEnd, if_pos h]

/-- memrange.Overlaps -/
def overB (a b c d : Int) : Bool := rngOk a b && rngOk c d && decide (a < rngEnd c d) && decide (c < rngEnd a b)

/-- memrange.Contains -/
def inB (a b c d : Int) : Bool := rngOk a b && rngOk c d && decide (a ≤ c) && decide (rngEnd c d ≤ rngEnd a b)

structure Cap where
  kind : Int
  base : Int
  bits : Int
  rights : Int
  width : Int
  level : Int
  device : Bool

/-- captype.Valid -/
def capOk (c : Cap) : Bool := sizeOk c.kind c.bits && rngOk c.base c.bits && decide (0 ≤ c.rights ∧ c.rights ≤ 7) && (if c.kind = 3 then formOk c.width c.level else decide (c.width = 0 ∧ c.level = 0)) && (!c.device || decide (c.kind = 1) || decide (c.kind = 2))

/-- captype.SameObject -/
def sameB (a b : Cap) : Bool := decide (a.kind = b.kind) && decide (a.base = b.base) && decide (a.bits = b.bits) && decide (a.width = b.width) && decide (a.level = b.level) && decide (a.device = b.device)

/-- captype.Coexist -/
def coB (a b : Cap) : Bool := !overB a.base a.bits b.base b.bits || sameB a b || (decide (a.kind = 1) && inB a.base a.bits b.base b.bits) || (decide (b.kind = 1) && inB b.base b.bits a.base a.bits)

end Go.Proofs.YtmgfkjonkdfedaaGreat
end

section
namespace Go.Proofs.YtmgfkjonkdfedaaGreat
open Go Go.AM
set_option linter.unusedSimpArgs false
set_option linter.unusedVariables false
set_option maxRecDepth 100000

/-- The cells of the capabilities that Retype makes. -/
def newCell (obj a sz bits r w l : Int) (d : Bool) (j : Nat) : List AV := [I obj, I (a + j * sz), I bits, I r, I w, I l, B d]

def newCells (obj a sz bits r w l : Int) (d : Bool) (n : Nat) : List (List AV) := (List.range n).map (newCell obj a sz bits r w l d)

theorem newCells_succ (obj a sz bits r w l : Int) (d : Bool) (n : Nat) : newCells obj a sz bits r w l d (n + 1) = newCells obj a sz bits r w l d n ++ [newCell obj a sz bits r w l d n] := by
  simp [newCells, List.range_succ]

theorem newCells_len (obj a sz bits r w l : Int) (d : Bool) (n : Nat) : (newCells obj a sz bits r w l d n).length = n := by simp [newCells]

theorem newCells_at (obj a sz bits r w l : Int) (d : Bool) (n i : Nat) (h : i < n) : (newCells obj a sz bits r w l d n)[i]? = some (newCell obj a sz bits r w l d i) := by
  simp [newCells, h]

theorem fuel_lt {n : Nat} (h : n < 2 ^ 64) : n < FUEL := by
  have : FUEL = 1208925819614629174706176 := rfl
  omega

theorem room_ok {a b : List (List AV)} {k : Nat} (h : (a.length + b.length) * (k + 1) ≤ 1099511627776) : roomP a b k := h

theorem size_rng {k b : Int} (h : sizeOk k b = true) : 6 ≤ b ∧ b ≤ 40 := by
  simp only [sizeOk, decide_eq_true_eq] at h
  omega

theorem cap_rng {c : Cap} (h : capOk c = true) : rngOk c.base c.bits = true := by
  simp only [capOk, Bool.and_eq_true] at h
  exact h.1.1.1.2

/-- captype.Retype: the error -/
def retErr (c : Cap) (obj bits level width off cnt : Int) : Int :=
  if capOk c = false ∨ c.kind ≠ 1 then 5
  else if iop .and .i64 c.rights 2 = 0 then 8
  else if sizeOk obj bits = false ∨ (obj = 3 ∧ formOk width level = false) ∨ cnt < 1 ∨ 8 < cnt ∨ off < 0 then 1
  else if c.device = true ∧ obj ≠ 1 ∧ obj ≠ 2 then 5
  else if off % 2 ^ bits.toNat ≠ 0 ∨ 2 ^ c.bits.toNat - cnt * 2 ^ bits.toNat < off ∨ (obj = 1 ∧ c.bits ≤ bits) then 6
  else 0

/-- captype.Retype: the capabilities -/
def retCells (c : Cap) (obj bits level width off cnt : Int) : List (List AV) :=
  if retErr c obj bits level width off cnt = 0 then newCells obj (c.base + off) (2 ^ bits.toNat) bits c.rights (if obj = 3 then width else 0) (if obj = 3 then level else 0) c.device cnt.toNat else []

theorem ret_bad {c : Cap} {obj bits level width off cnt e : Int} (he : e ≠ 0) (h : retErr c obj bits level width off cnt = e) :
    some (([] : List (List AV)), e) = some (retCells c obj bits level width off cnt, retErr c obj bits level width off cnt) := by
  simp only [retCells, h, if_neg he]

/-- What the numbers come to where all is well. -/
theorem ret_nums {c : Cap} {obj bits off cnt : Int} (hc : capOk c = true) (hs : sizeOk obj bits = true) (h1 : 1 ≤ cnt) (h2 : cnt ≤ 8) (h3 : 0 ≤ off) :
    iop .shl .i64 1 bits = 2 ^ bits.toNat ∧ iop .rem .i64 off (2 ^ bits.toNat) = off % 2 ^ bits.toNat ∧ iop .shl .i64 1 c.bits = 2 ^ c.bits.toNat ∧ iop .mul .i64 cnt (2 ^ bits.toNat) = cnt * 2 ^ bits.toNat ∧
      iop .sub .i64 (2 ^ c.bits.toNat) (cnt * 2 ^ bits.toNat) = 2 ^ c.bits.toNat - cnt * 2 ^ bits.toNat ∧ (2 : Int) ^ bits.toNat ≠ 0 ∧ 0 ≤ bits ∧ 0 ≤ c.bits ∧ 0 ≤ c.base ∧ c.base + 2 ^ c.bits.toNat ≤ 1099511627776 ∧
      0 < (2 : Int) ^ bits.toNat ∧ (2 : Int) ^ bits.toNat ≤ 1099511627776 ∧ (2 : Int) ^ bits.toNat ≤ cnt * 2 ^ bits.toNat ∧ 0 < (2 : Int) ^ c.bits.toNat ∧ bits ≤ 40 ∧ c.bits ≤ 40 := by
  obtain ⟨b1, b2⟩ := size_rng hs
  obtain ⟨r1, r2, r3, r4, r5⟩ := rngOk_of (cap_rng hc)
  have p1 := pow_pos2 bits.toNat
  have p2 := pow_pos2 c.bits.toNat
  have q1 := pow_hi b2
  have q2 := pow_hi r2
  have m1 : cnt * 2 ^ bits.toNat ≤ 8 * 2 ^ bits.toNat := Int.mul_le_mul_of_nonneg_right (by omega) (by omega)
  have m2 : 1 * 2 ^ bits.toNat ≤ cnt * 2 ^ bits.toNat := Int.mul_le_mul_of_nonneg_right (by omega) (by omega)
  refine ⟨shl1 (by omega), rem_pow (by omega), shl1 (by omega), mul_i (by omega) (by omega), sub_i (by omega) (by omega), by omega, by omega, by omega, r3, r5, p1, q1, by omega, p2, b2, r2⟩

theorem reqK_id {γ : Type} {p : Prop} {_ : Decidable p} (h : p) : (reqK p : Option γ → Option γ) = fun x => x := funext fun x => reqK_pos h x

theorem fuel6 : ∃ f, FUEL = f + 1 + 1 + 1 + 1 + 1 + 1 := ⟨FUEL - 6, by decide⟩

end Go.Proofs.YtmgfkjonkdfedaaGreat
end

section
namespace Go.Proofs.YtmgfkjonkdfedaaGreat
open Go Go.AM
set_option linter.unusedSimpArgs false
set_option linter.unusedVariables false
set_option maxRecDepth 100000

abbrev idSh : List Sh := [.int .i64, .int .i64, .int .i64]

/-- node.ValidId -/
def idOk (i : Id) : Bool := decide (0 ≤ i.core ∧ i.core < 32 ∧ 1 ≤ i.op ∧ i.op ≤ 1073741824 ∧ 0 ≤ i.part ∧ i.part < 8)

theorem s101 (a : Int) : g101 a = some false := by
  rw [g101_eq]
  simp [cop]

def cmpI (a b : Int) : Int := if a < b then -1 else if b < a then 1 else 0

theorem s70 (a b : Int) : g70 a b = some (cmpI a b) := by
  rw [g70_eq]
  simp only [s101, Option.bind_some, Bool.false_eq_true, if_false]
  by_cases h1 : a < b
  · rw [if_pos (by simp only [CQ]; omega), cmpI, if_pos h1]
  · by_cases h2 : b < a
    · rw [if_neg (by simp only [CQ]; omega), if_pos (by simp only [CQ]; omega), cmpI, if_neg h1, if_pos h2]
    · rw [if_neg (by simp only [CQ]; omega), if_neg (by simp only [CQ]; omega), cmpI, if_neg h1, if_neg h2]

def firstNZ (x y z : Int) : Int := if x ≠ 0 then x else if y ≠ 0 then y else z

theorem s69 (x y z : Int) : g69 (((([] : List (List AV)) ++ [[AV.val (.int .i64 x)]]) ++ [[AV.val (.int .i64 y)]]) ++ [[AV.val (.int .i64 z)]]) = some (firstNZ x y z) := by
  obtain ⟨f, hf⟩ := fuel6
  have e : (((([] : List (List AV)) ++ [[AV.val (.int .i64 x)]]) ++ [[AV.val (.int .i64 y)]]) ++ [[AV.val (.int .i64 z)]]) = [i64c x, i64c y, i64c z] := rfl
  have e1 : iop .add .i64 0 1 = 1 := by decide
  have e2 : iop .add .i64 1 1 = 2 := by decide
  have e3 : iop .add .i64 2 1 = 3 := by decide
  have hl : (([i64c x, i64c y, i64c z] : List (List AV)).length : Int) = 3 := rfl
  rw [g69_eq, e, hf, hl]
  rw [g69L0_eq, if_pos (by decide), elemK_at (sh := [.int .i64]) (cs := i64c x) (r := x) _ (by decide) rfl rfl]
  by_cases hx : x = 0
  · rw [if_neg (by simp only [CQ]; omega), e1, g69L0_eq, if_pos (by decide), elemK_at (sh := [.int .i64]) (cs := i64c y) (r := y) _ (by decide) rfl rfl]
    by_cases hy : y = 0
    · rw [if_neg (by simp only [CQ]; omega), e2, g69L0_eq, if_pos (by decide), elemK_at (sh := [.int .i64]) (cs := i64c z) (r := z) _ (by decide) rfl rfl]
      by_cases hz : z = 0
      · rw [if_neg (by simp only [CQ]; omega), e3, g69L0_eq, if_neg (by decide)]
        simp [firstNZ, hx, hy, hz]
      · rw [if_pos (by simp only [CQ]; omega)]
        simp [firstNZ, hx, hy]
    · rw [if_pos (by simp only [CQ]; omega)]
      simp [firstNZ, hx, hy]
  · rw [if_pos (by simp only [CQ]; omega)]
    simp [firstNZ, hx]

theorem s44 (a b c d e f : Int) : g44 a b c d e f = some (firstNZ (cmpI a d) (cmpI b e) (cmpI c f)) := by
  rw [g44_eq]
  simp only [s70, Option.bind_some, s69]

/-- node.Less -/
def idLt (a b c d e f : Int) : Bool := decide (a < d ∨ (a = d ∧ (b < e ∨ (b = e ∧ c < f))))

theorem s27 (a b c d e f : Int) : g27 a b c d e f = some (idLt a b c d e f) := by
  rw [g27_eq, s44, Option.bind_some]
  refine congrArg some ?_
  rw [bool_iff]
  simp only [idLt, CQ, cmpI, firstNZ]
  repeat' split
  all_goals omega

theorem ids_len (l : List Id) : (idCells l).length = l.length := by simp [idCells]

theorem ids_take (l : List Id) (n : Nat) : (idCells l).take n = idCells (l.take n) := by simp [idCells, List.map_take]

theorem ids_at {l : List Id} {i : Nat} {x : Id} (h : l[i]? = some x) : (idCells l)[i]? = some (idc x) := by simp [idCells, h]

theorem elem_id {γ : Type} {l : List Id} {i : Int} {x : Id} (k : (Int × Int × Int) → Option γ) (h0 : 0 ≤ i) (h : l[i.toNat]? = some x) : elemK (idCells l) i idSh k = k (x.core, x.op, x.part) :=
  elemK_at (sh := idSh) (r := (x.core, x.op, x.part)) k h0 (ids_at h) rfl

theorem id_eqb (a b c d e f : Int) : ((cop .eql a d && (cop .eql b e && (cop .eql c f && true))) = true) ↔ ((⟨a, b, c⟩ : Id) = ⟨d, e, f⟩) := by
  simp only [CQ, Id.mk.injEq, and_true]

structure Node where
  id : Id
  path : List Id
  cap : Cap

def pathAt (n : Node) (i : Nat) : Bool := match n.path[i]? with | none => true | some x => idOk x && decide (x ≠ n.id) && !(n.path.take i).contains x

/-- node.Valid -/
def nodeOk (n : Node) : Bool := idOk n.id && capOk n.cap && decide (n.path.length ≤ 8) && (List.range n.path.length).all (pathAt n)

def childErr (n : Node) (i : Id) (c : Cap) : Int := if nodeOk n = false ∨ idOk i = false ∨ capOk c = false ∨ i = n.id ∨ n.path.contains i = true then 1 else if 8 ≤ n.path.length then 9 else 0

end Go.Proofs.YtmgfkjonkdfedaaGreat
end

section
namespace Go.Proofs.YtmgfkjonkdfedaaGreat
open Go Go.AM
set_option linter.unusedSimpArgs false
set_option linter.unusedVariables false
set_option maxRecDepth 100000

def pathRef (n : Node) (i : Nat) : Bool := match n.path[i]? with | none => true | some x => idOk x && !(n.path.take i).contains x

theorem nodeOk_ref (n : Node) : nodeOk n = (idOk n.id && capOk n.cap && decide (n.path.length ≤ 8) && (!n.path.contains n.id && (List.range n.path.length).all (pathRef n))) := by
  unfold nodeOk
  congr 1
  rw [bool_iff]
  simp only [Bool.and_eq_true, List.all_eq_true, List.mem_range, Bool.not_eq_true', ← Bool.not_eq_true, List.contains_iff_mem]
  constructor
  · intro h
    refine ⟨fun hc => ?_, fun i hi => ?_⟩
    · obtain ⟨i, hi⟩ := List.mem_iff_getElem?.1 hc
      have := h i (List.getElem?_eq_some_iff.1 hi).1
      unfold pathAt at this
      rw [hi] at this
      simp at this
    · have := h i hi
      unfold pathAt at this
      unfold pathRef
      rw [List.getElem?_eq_getElem hi] at this ⊢
      simp only [Bool.and_eq_true] at this ⊢
      exact ⟨this.1.1, this.2⟩
  · intro ⟨h1, h2⟩ i hi
    have := h2 i hi
    unfold pathRef at this
    unfold pathAt
    rw [List.getElem?_eq_getElem hi] at this ⊢
    simp only [Bool.and_eq_true, decide_eq_true_eq] at this ⊢
    exact ⟨⟨this.1, fun he => h1 (he ▸ List.getElem_mem hi)⟩, this.2⟩

theorem l52 {l m : List Id} (hl : l.length < 2 ^ 63) (hm : l.length = m.length) : ∀ (j i fuel : Nat), l.length = i + j → j < fuel → g52L0 fuel (idCells l) (idCells m) i = some (decide (l.drop i = m.drop i)) := by
  intro j
  induction j with
  | zero =>
    intro i fuel h hf
    obtain ⟨f, rfl⟩ : ∃ f, fuel = f + 1 := ⟨fuel - 1, by omega⟩
    rw [g52L0_eq, if_neg (by simp only [CQ, ids_len]; omega), List.drop_of_length_le (by omega), List.drop_of_length_le (by omega)]
    rfl
  | succ j ih =>
    intro i fuel h hf
    obtain ⟨f, rfl⟩ : ∃ f, fuel = f + 1 := ⟨fuel - 1, by omega⟩
    have hi : i < l.length := by omega
    have hi' : i < m.length := by omega
    have hat : l[(i : Int).toNat]? = some l[i] := by simp
    have hat' : m[(i : Int).toNat]? = some m[i] := by simp
    have a4 : iop .add .i64 i 1 = ((i + 1 : Nat) : Int) := by rw [add_i (by omega) (by omega)]; omega
    rw [g52L0_eq, if_pos (by simp only [CQ, ids_len]; omega), elem_id _ (by omega) hat, elem_id _ (by omega) hat', a4, List.drop_eq_getElem_cons hi, List.drop_eq_getElem_cons hi']
    by_cases he : l[i] = m[i]
    · rw [if_neg (by rw [Bool.not_eq_true', ← Bool.not_eq_true, id_eqb]; exact fun h => h he), ih (i + 1) f (by omega) (by omega)]
      simp only [he, List.cons.injEq, true_and]
    · rw [if_pos (by rw [Bool.not_eq_true', ← Bool.not_eq_true, id_eqb]; exact he)]
      simp only [List.cons.injEq, he, false_and, decide_false]

theorem s52 (l m : List Id) (hl : l.length < 2 ^ 63) (hm : m.length < 2 ^ 63) : g52 (idCells l) (idCells m) = some (decide (l = m)) := by
  rw [g52_eq, ids_len, ids_len]
  by_cases h : l.length = m.length
  · rw [if_neg (by simp only [CQ]; omega)]
    have := l52 hl h l.length 0 FUEL (by omega) (fuel_lt (by omega))
    rw [List.drop_zero, List.drop_zero] at this
    exact this
  · rw [if_pos (by simp only [CQ]; omega)]
    have : ¬ l = m := fun he => h (by rw [he])
    simp [this]

theorem s34 (a b c : Int) (l : List Id) (hl : l.length < 2 ^ 63) (k bs s r w lv : Int) (d : Bool) : g34 a b c (idCells l) k bs s r w lv d a b c (idCells l) k bs s r w lv d = some true := by
  rw [g34_eq, s52 l l hl hl, if_pos (by simp [cop]), if_pos (by simp [cop]), Option.bind_some]
  simp

end Go.Proofs.YtmgfkjonkdfedaaGreat
end

section
namespace Go.Proofs.YtmgfkjonkdfedaaGreat
open Go Go.AM
set_option linter.unusedSimpArgs false
set_option linter.unusedVariables false
set_option maxRecDepth 100000

theorem fuel63 {n : Nat} (h : n < 2 ^ 63) : n + 1 < FUEL := by
  have : (2 : Nat) ^ 64 ≤ FUEL := by decide
  omega

theorem inc_i {i n : Nat} (h : i < n) (hn : n < 2 ^ 63) : iop .add .i64 (i : Int) 1 = ((i + 1 : Nat) : Int) := by
  rw [add_i (by omega) (by omega)]; omega

theorem lss_t {i n : Nat} (h : i < n) : (cop .lss (i : Int) (n : Int)) = true := by
  simp only [CQ]; omega

theorem lss_f {i n : Nat} (h : n ≤ i) : ¬ (cop .lss (i : Int) (n : Int)) = true := by
  simp only [CQ]; omega

theorem scan_all {γ : Type} {F : Nat → Int → Option γ} {n : Nat} {fin bad : Option γ} (p : Nat → Bool) (hn : n < 2 ^ 63) (i0 : Nat) (hi0 : i0 ≤ 1)
    (step : ∀ k i : Nat, i0 ≤ i → i < n → F (k + 1) (i : Int) = if p i = true then F k ((i + 1 : Nat) : Int) else bad)
    (last : ∀ k i : Nat, n ≤ i → F (k + 1) (i : Int) = fin) : F FUEL (i0 : Int) = if (List.range' i0 (n - i0)).all p = true then fin else bad := by
  have key : ∀ (j i fuel : Nat), i0 ≤ i → n ≤ i + j → j < fuel → F fuel (i : Int) = if (List.range' i (n - i)).all p = true then fin else bad := by
    intro j
    induction j with
    | zero =>
      intro i fuel h0 h hf
      obtain ⟨f, rfl⟩ : ∃ f, fuel = f + 1 := ⟨fuel - 1, by omega⟩
      rw [last f i (by omega), show n - i = 0 by omega]
      rfl
    | succ j ih =>
      intro i fuel h0 h hf
      obtain ⟨f, rfl⟩ : ∃ f, fuel = f + 1 := ⟨fuel - 1, by omega⟩
      by_cases hi : i < n
      · rw [step f i h0 hi, show n - i = (n - (i + 1)) + 1 by omega, List.range'_succ, List.all_cons]
        cases hp : p i with
        | true => rw [if_pos rfl, ih (i + 1) f (by omega) (by omega) (by omega), Bool.true_and]
        | false => rw [if_neg Bool.false_ne_true, Bool.false_and, if_neg Bool.false_ne_true]
      · rw [last f i (by omega), show n - i = 0 by omega]
        rfl
  exact key n i0 FUEL (Nat.le_refl _) (by omega) (by have := fuel63 hn; omega)

theorem scan_idx {F : Nat → Int → Option Int} {n : Nat} (p : Nat → Bool) (hn : n < 2 ^ 63)
    (step : ∀ k i : Nat, i < n → F (k + 1) (i : Int) = if p i = true then some (i : Int) else F k ((i + 1 : Nat) : Int))
    (last : ∀ k i : Nat, n ≤ i → F (k + 1) (i : Int) = some (-1)) : ∃ r, F FUEL 0 = some r ∧ cop .geq r 0 = (List.range' 0 n).any p := by
  have key : ∀ (j i fuel : Nat), n ≤ i + j → j < fuel → ∃ r, F fuel (i : Int) = some r ∧ cop .geq r 0 = (List.range' i (n - i)).any p := by
    intro j
    induction j with
    | zero =>
      intro i fuel h hf
      obtain ⟨f, rfl⟩ : ∃ f, fuel = f + 1 := ⟨fuel - 1, by omega⟩
      rw [last f i (by omega), show n - i = 0 by omega]
      exact ⟨_, rfl, rfl⟩
    | succ j ih =>
      intro i fuel h hf
      obtain ⟨f, rfl⟩ : ∃ f, fuel = f + 1 := ⟨fuel - 1, by omega⟩
      by_cases hi : i < n
      · rw [step f i hi, show n - i = (n - (i + 1)) + 1 by omega, List.range'_succ, List.any_cons]
        cases hp : p i with
        | true =>
          rw [if_pos rfl, Bool.true_or]
          refine ⟨_, rfl, ?_⟩
          simp only [CQ]
          omega
        | false => rw [if_neg Bool.false_ne_true, Bool.false_or]; exact ih (i + 1) f (by omega) (by omega)
      · rw [last f i (by omega), show n - i = 0 by omega]
        exact ⟨_, rfl, rfl⟩
  have := key n 0 FUEL (by omega) (by have := fuel63 hn; omega)
  simpa using this

def atB {α : Type} (q : α → Bool) (l : List α) (i : Nat) : Bool := match l[i]? with | some x => q x | none => true

theorem atB_at {α : Type} (q : α → Bool) {l : List α} {i : Nat} (h : i < l.length) : atB q l i = q l[i] := by
  unfold atB
  rw [List.getElem?_eq_getElem h]

theorem all_at {α : Type} (q : α → Bool) (l : List α) : (List.range' 0 l.length).all (atB q l) = l.all q := by
  rw [bool_iff, List.all_eq_true, List.all_eq_true]
  constructor
  · intro h x hx
    obtain ⟨i, hi, rfl⟩ := List.getElem_of_mem hx
    have := h i (by simp [List.mem_range', hi])
    rwa [atB_at q hi] at this
  · intro h i hi
    have hi' : i < l.length := by simpa [List.mem_range'] using hi
    rw [atB_at q hi']
    exact h _ (List.getElem_mem hi')

theorem any_at {α : Type} (q : α → Bool) (l : List α) : (List.range' 0 l.length).any (fun i => !atB q l i) = !(l.all q) := by
  rw [← all_at q l, List.any_eq_not_all_not]
  simp

/-- The element before is less. -/
def prevB {α : Type} (lt : α → α → Bool) (l : List α) : Nat → Bool
  | 0 => true
  | j + 1 => match l[j]?, l[j + 1]? with | some a, some b => lt a b | _, _ => true

def ascB {α : Type} (lt : α → α → Bool) (l : List α) : Bool := (List.range' 0 l.length).all (prevB lt l)

theorem prev_at {α : Type} (lt : α → α → Bool) {l : List α} {j : Nat} (h : j + 1 < l.length) : prevB lt l (j + 1) = lt l[j] l[j + 1] := by
  show (match l[j]?, l[j + 1]? with | some a, some b => lt a b | _, _ => true) = _
  rw [List.getElem?_eq_getElem h, List.getElem?_eq_getElem (show j < l.length by omega)]

theorem asc1 {α : Type} (lt : α → α → Bool) (l : List α) : (List.range' 1 (l.length - 1)).all (prevB lt l) = ascB lt l := by
  unfold ascB
  cases l with
  | nil => rfl
  | cons a r => rw [show (a :: r).length = ((a :: r).length - 1) + 1 from rfl, List.range'_succ, List.all_cons]; rfl

theorem all_and {α : Type} (l : List α) (p q : α → Bool) : l.all (fun i => p i && q i) = (l.all p && l.all q) := by
  induction l with
  | nil => rfl
  | cons a r ih => simp only [List.all_cons, ih]; cases p a <;> cases q a <;> cases r.all p <;> rfl

theorem both_at {α : Type} (q : α → Bool) (lt : α → α → Bool) (l : List α) : (List.range' 0 l.length).all (fun i => atB q l i && prevB lt l i) = (l.all q && ascB lt l) := by
  rw [all_and, all_at]; rfl

structure Call where
  kind : Int
  slot : Int
  dest : Int
  core : Int
  mask : Int
  object : Int
  bits : Int
  level : Int
  offset : Int
  count : Int
  index : Int
  addr : Int

structure Req where
  id : Id
  call : Call
  region : Int
  width : Int
  src : Node

structure Slot where
  node : Node
  op : Int
  lock : Id

structure Mark where
  region : Int
  op : Id

structure Ans where
  op : Int
  err : Int

structure Entry where
  core : Int
  slot : Int
  node : Node

structure Move where
  region : Int
  to : Int

structure View where
  number : Int
  members : List Int
  owners : List Int

structure State where
  slots : List Slot
  pending : List Req
  marks : List Mark
  answers : List Ans
  entries : List Entry
  commits : List Id

structure Report where
  core : Int
  view : View
  state : State
  ready : Bool
  next : View
  proposal : State

def nodec (n : Node) : List AV := [I n.id.core, I n.id.op, I n.id.part, .slice false 3 (idCells n.path), I n.cap.kind, I n.cap.base, I n.cap.bits, I n.cap.rights, I n.cap.width, I n.cap.level, B n.cap.device]

def callc (c : Call) : List AV := [I c.kind, I c.slot, I c.dest, I c.core, I c.mask, I c.object, I c.bits, I c.level, I c.offset, I c.count, I c.index, I c.addr]

def reqc (r : Req) : List AV := [I r.id.core, I r.id.op, I r.id.part, I r.call.kind, I r.call.slot, I r.call.dest, I r.call.core, I r.call.mask, I r.call.object, I r.call.bits, I r.call.level, I r.call.offset, I r.call.count, I r.call.index, I r.call.addr, I r.region, I r.width, I r.src.id.core, I r.src.id.op, I r.src.id.part, .slice false 3 (idCells r.src.path), I r.src.cap.kind, I r.src.cap.base, I r.src.cap.bits, I r.src.cap.rights, I r.src.cap.width, I r.src.cap.level, B r.src.cap.device]

def slotc (s : Slot) : List AV := [I s.node.id.core, I s.node.id.op, I s.node.id.part, .slice false 3 (idCells s.node.path), I s.node.cap.kind, I s.node.cap.base, I s.node.cap.bits, I s.node.cap.rights, I s.node.cap.width, I s.node.cap.level, B s.node.cap.device, I s.op, I s.lock.core, I s.lock.op, I s.lock.part]

def markc (m : Mark) : List AV := [I m.region, I m.op.core, I m.op.op, I m.op.part]

def ansc (a : Ans) : List AV := [I a.op, I a.err]

def movec (a : Move) : List AV := [I a.region, I a.to]

def entryc (e : Entry) : List AV := [I e.core, I e.slot, I e.node.id.core, I e.node.id.op, I e.node.id.part, .slice false 3 (idCells e.node.path), I e.node.cap.kind, I e.node.cap.base, I e.node.cap.bits, I e.node.cap.rights, I e.node.cap.width, I e.node.cap.level, B e.node.cap.device]

abbrev nodeSh : List Sh := [.int .i64, .int .i64, .int .i64, .slice 3, .int .i64, .int .i64, .int .i64, .int .i64, .int .i64, .int .i64, .bool]

abbrev reqSh : List Sh := [.int .i64, .int .i64, .int .i64, .int .i64, .int .i64, .int .i64, .int .i64, .int .i64, .int .i64, .int .i64, .int .i64, .int .i64, .int .i64, .int .i64, .int .i64, .int .i64, .int .i64, .int .i64, .int .i64, .int .i64, .slice 3, .int .i64, .int .i64, .int .i64, .int .i64, .int .i64, .int .i64, .bool]

abbrev slotSh : List Sh := [.int .i64, .int .i64, .int .i64, .slice 3, .int .i64, .int .i64, .int .i64, .int .i64, .int .i64, .int .i64, .bool, .int .i64, .int .i64, .int .i64, .int .i64]

abbrev entrySh : List Sh := [.int .i64, .int .i64, .int .i64, .int .i64, .int .i64, .slice 3, .int .i64, .int .i64, .int .i64, .int .i64, .int .i64, .int .i64, .bool]

def nodeV (n : Node) : ShsT nodeSh := (n.id.core, n.id.op, n.id.part, idCells n.path, n.cap.kind, n.cap.base, n.cap.bits, n.cap.rights, n.cap.width, n.cap.level, n.cap.device)

def reqV (r : Req) : ShsT reqSh := (r.id.core, r.id.op, r.id.part, r.call.kind, r.call.slot, r.call.dest, r.call.core, r.call.mask, r.call.object, r.call.bits, r.call.level, r.call.offset, r.call.count, r.call.index, r.call.addr, r.region, r.width, r.src.id.core, r.src.id.op, r.src.id.part, idCells r.src.path, r.src.cap.kind, r.src.cap.base, r.src.cap.bits, r.src.cap.rights, r.src.cap.width, r.src.cap.level, r.src.cap.device)

def slotV (s : Slot) : ShsT slotSh := (s.node.id.core, s.node.id.op, s.node.id.part, idCells s.node.path, s.node.cap.kind, s.node.cap.base, s.node.cap.bits, s.node.cap.rights, s.node.cap.width, s.node.cap.level, s.node.cap.device, s.op, s.lock.core, s.lock.op, s.lock.part)

def entryV (e : Entry) : ShsT entrySh := (e.core, e.slot, e.node.id.core, e.node.id.op, e.node.id.part, idCells e.node.path, e.node.cap.kind, e.node.cap.base, e.node.cap.bits, e.node.cap.rights, e.node.cap.width, e.node.cap.level, e.node.cap.device)

theorem elem_map {α γ : Type} {f : α → List AV} {sh : List Sh} {v : α → ShsT sh} (hf : ∀ x, ofEs sh (f x) = some (v x)) {l : List α} {i : Nat} (h : i < l.length) (k : ShsT sh → Option γ) : elemK (l.map f) (i : Int) sh k = k (v l[i]) := by
  refine elemK_at k (by omega) (cs := f l[i]) ?_ (hf _)
  rw [Int.toNat_natCast, List.getElem?_map, List.getElem?_eq_getElem h]
  rfl

theorem elem_nodes {γ : Type} {l : List Node} {i : Nat} (h : i < l.length) (k : ShsT nodeSh → Option γ) : elemK (l.map nodec) (i : Int) nodeSh k = k (nodeV l[i]) := elem_map (fun _ => rfl) h k

theorem elem_reqs {γ : Type} {l : List Req} {i : Nat} (h : i < l.length) (k : ShsT reqSh → Option γ) : elemK (l.map reqc) (i : Int) reqSh k = k (reqV l[i]) := elem_map (fun _ => rfl) h k

theorem elem_slots {γ : Type} {l : List Slot} {i : Nat} (h : i < l.length) (k : ShsT slotSh → Option γ) : elemK (l.map slotc) (i : Int) slotSh k = k (slotV l[i]) := elem_map (fun _ => rfl) h k

theorem elem_entries {γ : Type} {l : List Entry} {i : Nat} (h : i < l.length) (k : ShsT entrySh → Option γ) : elemK (l.map entryc) (i : Int) entrySh k = k (entryV l[i]) := elem_map (fun _ => rfl) h k

theorem elem_marks {γ : Type} {l : List Mark} {i : Nat} (h : i < l.length) (k : (Int × Int × Int × Int) → Option γ) : elemK (l.map markc) (i : Int) [.int .i64, .int .i64, .int .i64, .int .i64] k = k (l[i].region, l[i].op.core, l[i].op.op, l[i].op.part) := elem_map (sh := [.int .i64, .int .i64, .int .i64, .int .i64]) (v := fun x => (x.region, x.op.core, x.op.op, x.op.part)) (fun _ => rfl) h k

theorem elem_anss {γ : Type} {l : List Ans} {i : Nat} (h : i < l.length) (k : (Int × Int) → Option γ) : elemK (l.map ansc) (i : Int) [.int .i64, .int .i64] k = k (l[i].op, l[i].err) := elem_map (sh := [.int .i64, .int .i64]) (v := fun x => (x.op, x.err)) (fun _ => rfl) h k

theorem elem_moves {γ : Type} {l : List Move} {i : Nat} (h : i < l.length) (k : (Int × Int) → Option γ) : elemK (l.map movec) (i : Int) [.int .i64, .int .i64] k = k (l[i].region, l[i].to) := elem_map (sh := [.int .i64, .int .i64]) (v := fun x => (x.region, x.to)) (fun _ => rfl) h k

theorem elem_ids {γ : Type} {l : List Id} {i : Nat} (h : i < l.length) (k : (Int × Int × Int) → Option γ) : elemK (idCells l) (i : Int) [.int .i64, .int .i64, .int .i64] k = k (l[i].core, l[i].op, l[i].part) := elem_map (f := idc) (sh := [.int .i64, .int .i64, .int .i64]) (v := fun x => (x.core, x.op, x.part)) (fun _ => rfl) h k

theorem elem_ints {γ : Type} {l : List Int} {i : Nat} (h : i < l.length) (k : Int → Option γ) : elemK (intCells l) (i : Int) [.int .i64] k = k l[i] := elem_map (f := i64c) (sh := [.int .i64]) (v := fun x => x) (fun _ => rfl) h k

theorem id_eta (i : Id) : (⟨i.core, i.op, i.part⟩ : Id) = i := rfl

end Go.Proofs.YtmgfkjonkdfedaaGreat
end

section
namespace Go.Proofs.YtmgfkjonkdfedaaGreat
open Go Go.AM
set_option linter.unusedSimpArgs false
set_option linter.unusedVariables false
set_option maxRecDepth 100000

def coreOk (z : Int) : Bool := decide (0 ≤ z ∧ z < 32)

def regOk (z : Int) : Bool := decide (0 ≤ z ∧ z < 16)

def slotOk (z : Int) : Bool := decide (0 ≤ z ∧ z < 64)

def errOk (z : Int) : Bool := decide (0 ≤ z ∧ z ≤ 99)

def opOk (i : Id) : Bool := idOk i && decide (i.part = 0)

def sameN (a b : Node) : Bool := decide (a.id = b.id) && decide (a.cap.kind = b.cap.kind ∧ a.cap.base = b.cap.base ∧ a.cap.bits = b.cap.bits ∧ a.cap.rights = b.cap.rights ∧ a.cap.width = b.cap.width ∧ a.cap.level = b.cap.level ∧ a.cap.device = b.cap.device) && decide (a.path = b.path)

theorem cap_eqb (a b : Cap) : (((cop .eql a.kind b.kind) && ((cop .eql a.base b.base) && ((cop .eql a.bits b.bits) && ((cop .eql a.rights b.rights) && ((cop .eql a.width b.width) && ((cop .eql a.level b.level) && ((a.device == b.device) && true))))))) = true) ↔ (a.kind = b.kind ∧ a.base = b.base ∧ a.bits = b.bits ∧ a.rights = b.rights ∧ a.width = b.width ∧ a.level = b.level ∧ a.device = b.device) := by
  simp only [CQ, beq_iff_eq, and_true]

theorem s34' (a b : Node) (ha : a.path.length < 2 ^ 63) (hb : b.path.length < 2 ^ 63) : g34 a.id.core a.id.op a.id.part (idCells a.path) a.cap.kind a.cap.base a.cap.bits a.cap.rights a.cap.width a.cap.level a.cap.device b.id.core b.id.op b.id.part (idCells b.path) b.cap.kind b.cap.base b.cap.bits b.cap.rights b.cap.width b.cap.level b.cap.device = some (sameN a b) := by
  rw [g34_eq, s52 _ _ ha hb, Option.bind_some]
  unfold sameN
  refine ite_goal (fun h => ?_) fun h => ?_
  · rw [id_eqb] at h
    refine ite_goal (fun h2 => ?_) fun h2 => ?_
    · rw [cap_eqb] at h2
      rw [decide_eq_true (show a.id = b.id from h), decide_eq_true h2]; rfl
    · rw [cap_eqb] at h2
      rw [decide_eq_true (show a.id = b.id from h), decide_eq_false h2]; rfl
  · rw [id_eqb] at h
    rw [decide_eq_false (show ¬ a.id = b.id from h)]; rfl

def noNode : Node := ⟨⟨0, 0, 0⟩, [], ⟨0, 0, 0, 0, 0, 0, false⟩⟩

theorem s34z (a : Node) (ha : a.path.length < 2 ^ 63) : g34 a.id.core a.id.op a.id.part (idCells a.path) a.cap.kind a.cap.base a.cap.bits a.cap.rights a.cap.width a.cap.level a.cap.device 0 0 0 ([] : List (List AV)) 0 0 0 0 0 0 false = some (sameN a noNode) := s34' a noNode ha (by simp [noNode])

def reqOk (r : Req) : Bool := opOk r.id && decide (1 ≤ r.call.kind ∧ r.call.kind ≤ 6) && regOk r.region && decide (r.width = 32 ∨ r.width = 39) && (if r.call.kind = 1 then sameN r.src noNode else nodeOk r.src)

end Go.Proofs.YtmgfkjonkdfedaaGreat
end

section
namespace Go.Proofs.YtmgfkjonkdfedaaGreat
open Go Go.AM
set_option linter.unusedSimpArgs false
set_option linter.unusedVariables false
set_option maxRecDepth 100000

theorem scan_hit {γ : Type} {F : Nat → Int → Option γ} {n : Nat} {miss : γ} (hit : Nat → γ) (p : Nat → Bool) (hn : n < 2 ^ 63)
    (step : ∀ k i : Nat, i < n → F (k + 1) (i : Int) = if p i = true then some (hit i) else F k ((i + 1 : Nat) : Int))
    (last : ∀ k i : Nat, n ≤ i → F (k + 1) (i : Int) = some miss) :
    (∃ i, i < n ∧ p i = true ∧ (∀ j, j < i → p j = false) ∧ F FUEL 0 = some (hit i)) ∨ ((∀ j, j < n → p j = false) ∧ F FUEL 0 = some miss) := by
  have key : ∀ (j i fuel : Nat), n ≤ i + j → j < fuel → (∃ m, i ≤ m ∧ m < n ∧ p m = true ∧ (∀ j, i ≤ j → j < m → p j = false) ∧ F fuel (i : Int) = some (hit m)) ∨ ((∀ j, i ≤ j → j < n → p j = false) ∧ F fuel (i : Int) = some miss) := by
    intro j
    induction j with
    | zero =>
      intro i fuel h hf
      obtain ⟨f, rfl⟩ : ∃ f, fuel = f + 1 := ⟨fuel - 1, by omega⟩
      exact .inr ⟨fun j h1 h2 => by omega, last f i (by omega)⟩
    | succ j ih =>
      intro i fuel h hf
      obtain ⟨f, rfl⟩ : ∃ f, fuel = f + 1 := ⟨fuel - 1, by omega⟩
      by_cases hi : i < n
      · rw [step f i hi]
        cases hp : p i with
        | true => exact .inl ⟨i, Nat.le_refl _, hi, hp, fun j h1 h2 => by omega, if_pos rfl⟩
        | false =>
          rw [if_neg Bool.false_ne_true]
          rcases ih (i + 1) f (by omega) (by omega) with ⟨m, h1, h2, h3, h4, h5⟩ | ⟨h1, h2⟩
          · refine .inl ⟨m, by omega, h2, h3, fun j h6 h7 => ?_, h5⟩
            by_cases he : j = i
            · rw [he]; exact hp
            · exact h4 j (by omega) h7
          · refine .inr ⟨fun j h6 h7 => ?_, h2⟩
            by_cases he : j = i
            · rw [he]; exact hp
            · exact h1 j (by omega) h7
      · exact .inr ⟨fun j h1 h2 => by omega, last f i (by omega)⟩
  rcases key n 0 FUEL (by omega) (by have := fuel63 hn; omega) with ⟨m, _, h2, h3, h4, h5⟩ | ⟨h1, h2⟩
  · exact .inl ⟨m, h2, h3, fun j hj => h4 j (by omega) hj, h5⟩
  · exact .inr ⟨fun j hj => h1 j (by omega) hj, h2⟩

def zid : Id := ⟨0, 0, 0⟩

def hitS (i : Id) (t : Slot) : Bool := !decide (t.node.id = zid) && decide (t.node.id = i)

def slot1 (s : Slot) : Bool := decide (0 ≤ s.op ∧ s.op ≤ 1073741824) && (if s.node.id = zid then sameN s.node noNode && decide (s.lock = zid) else nodeOk s.node && (decide (s.lock = zid) || opOk s.lock))

/-- No slot before holds the same node. -/
def uniqAt (l : List Slot) (i : Nat) : Bool := match l[i]? with | some s => !((l.take i).any (hitS s.node.id)) | none => true

def slotsOk (l : List Slot) : Bool := decide (l.length ≤ 64) && (List.range' 0 l.length).all (fun i => atB slot1 l i && uniqAt l i)

theorem zid_eqb (a b c : Int) : ((cop .eql a 0 && (cop .eql b 0 && (cop .eql c 0 && true))) = true) ↔ ((⟨a, b, c⟩ : Id) = zid) := id_eqb a b c 0 0 0

theorem any_take {α : Type} (q : α → Bool) (l : List α) (i : Nat) (hi : i ≤ l.length) : (l.take i).any q = true ↔ ∃ j, ∃ (h : j < l.length), j < i ∧ q l[j] = true := by
  rw [List.any_eq_true]
  constructor
  · rintro ⟨x, hx, hq⟩
    obtain ⟨j, hj, rfl⟩ := List.getElem_of_mem hx
    rw [List.length_take] at hj
    rw [List.getElem_take] at hq
    exact ⟨j, by omega, by omega, hq⟩
  · rintro ⟨j, h1, h2, hq⟩
    refine ⟨l[j], ?_, hq⟩
    rw [List.mem_iff_getElem]
    exact ⟨j, by rw [List.length_take]; omega, by rw [List.getElem_take]⟩

theorem slots_len (l : List Slot) : (l.map slotc).length = l.length := List.length_map _

end Go.Proofs.YtmgfkjonkdfedaaGreat
end

section
namespace Go.Proofs.YtmgfkjonkdfedaaGreat
open Go Go.AM
set_option linter.unusedSimpArgs false
set_option linter.unusedVariables false
set_option maxRecDepth 100000

theorem dec_i {j : Nat} (h : j + 1 < 2 ^ 63) : iop .sub .i64 ((j + 1 : Nat) : Int) 1 = (j : Int) := by
  rw [sub_i (by omega) (by omega)]; omega

theorem gtr_s (j : Nat) : cop .gtr ((j + 1 : Nat) : Int) 0 = true := by simp only [CQ]; omega

theorem gtr_z : cop .gtr ((0 : Nat) : Int) 0 = false := rfl

def ltId (a b : Id) : Bool := idLt a.core a.op a.part b.core b.op b.part

theorem s33 (a b c d e f : Int) : g33 a b c d e f = some (idLt a b c d e f) := by
  rw [g33_eq]
  repeat' split
  all_goals (refine congrArg some ?_; rw [bool_iff]; simp only [idLt, CQ] at *; omega)

def markOk (m : Mark) : Bool := regOk m.region && opOk m.op

def ansOk (a : Ans) : Bool := decide (1 ≤ a.op ∧ a.op ≤ 1073741824) && errOk a.err

def entOk (e : Entry) : Bool := coreOk e.core && slotOk e.slot && nodeOk e.node

def ltp : Req → Req → Bool := fun a b => ltId a.id b.id

def ltm : Mark → Mark → Bool := fun a b => decide (a.region < b.region)

def lta : Ans → Ans → Bool := fun a b => decide (a.op < b.op)

def lte : Entry → Entry → Bool := fun a b => ltId a.node.id b.node.id

def idsOk (ops : Bool) (i : Id) : Bool := idOk i && (!ops || decide (i.part = 0))

def stateOk (s : State) : Bool := slotsOk s.slots && (s.pending.all reqOk && ascB ltp s.pending) && (s.marks.all markOk && ascB ltm s.marks) && (s.answers.all ansOk && ascB lta s.answers) && (s.entries.all entOk && ascB lte s.entries) && s.commits.all opOk

/-- Lists as long as memory holds. -/
structure State.Fits (s : State) : Prop where
  slots : s.slots.length < 2 ^ 63
  pending : s.pending.length < 2 ^ 63
  marks : s.marks.length < 2 ^ 63
  answers : s.answers.length < 2 ^ 63
  entries : s.entries.length < 2 ^ 63
  commits : s.commits.length < 2 ^ 63
  slot : ∀ x ∈ s.slots, x.node.path.length < 2 ^ 63
  req : ∀ x ∈ s.pending, x.src.path.length < 2 ^ 63
  entry : ∀ x ∈ s.entries, x.node.path.length < 2 ^ 63

end Go.Proofs.YtmgfkjonkdfedaaGreat
end

section
namespace Go.Proofs.YtmgfkjonkdfedaaGreat
open Go Go.AM
set_option linter.unusedSimpArgs false
set_option linter.unusedVariables false
set_option maxRecDepth 100000

theorem scan_tot {γ : Type} {F : Nat → Int → Int → Option γ} {n : Nat} (hn : n < 2 ^ 63)
    (step : ∀ (k : Nat) (acc : Int) (i : Nat), i < n → ∃ acc', F (k + 1) acc (i : Int) = F k acc' ((i + 1 : Nat) : Int))
    (last : ∀ (k : Nat) (acc : Int) (i : Nat), n ≤ i → ∃ r, F (k + 1) acc (i : Int) = some r) (acc : Int) : ∃ r, F FUEL acc 0 = some r := by
  have key : ∀ (j : Nat) (acc : Int) (i fuel : Nat), n ≤ i + j → j < fuel → ∃ r, F fuel acc (i : Int) = some r := by
    intro j
    induction j with
    | zero =>
      intro acc i fuel h hf
      obtain ⟨f, rfl⟩ : ∃ f, fuel = f + 1 := ⟨fuel - 1, by omega⟩
      exact last f acc i (by omega)
    | succ j ih =>
      intro acc i fuel h hf
      obtain ⟨f, rfl⟩ : ∃ f, fuel = f + 1 := ⟨fuel - 1, by omega⟩
      by_cases hi : i < n
      · obtain ⟨acc', h'⟩ := step f acc i hi
        rw [h']
        exact ih acc' (i + 1) f (by omega) (by omega)
      · exact last f acc i (by omega)
  exact key n acc 0 FUEL (by omega) (by have := fuel63 hn; omega)

theorem ty_call {d : Nat} {cs : List AV} (h : TyR Tryz.prog (d + 2) 27 cs) : ∃ c : Call, cs = callc c := by
  rw [TyR] at h
  simp only [Tryz.underlying27] at h
  obtain ⟨ps, rfl, hl, hp⟩ := h
  obtain ⟨p0, p1, p2, p3, p4, p5, p6, p7, p8, p9, p10, p11, rfl⟩ : ∃ p0 p1 p2 p3 p4 p5 p6 p7 p8 p9 p10 p11, ps = [p0, p1, p2, p3, p4, p5, p6, p7, p8, p9, p10, p11] := by
    match ps, hl with
    | [p0, p1, p2, p3, p4, p5, p6, p7, p8, p9, p10, p11], _ => exact ⟨p0, p1, p2, p3, p4, p5, p6, p7, p8, p9, p10, p11, rfl⟩
  obtain ⟨z0, rfl⟩ := ty_int (hp 0 _ _ rfl rfl)
  obtain ⟨z1, rfl⟩ := ty_int (hp 1 _ _ rfl rfl)
  obtain ⟨z2, rfl⟩ := ty_int (hp 2 _ _ rfl rfl)
  obtain ⟨z3, rfl⟩ := ty_int (hp 3 _ _ rfl rfl)
  obtain ⟨z4, rfl⟩ := ty_int (hp 4 _ _ rfl rfl)
  obtain ⟨z5, rfl⟩ := ty_int (hp 5 _ _ rfl rfl)
  obtain ⟨z6, rfl⟩ := ty_int (hp 6 _ _ rfl rfl)
  obtain ⟨z7, rfl⟩ := ty_int (hp 7 _ _ rfl rfl)
  obtain ⟨z8, rfl⟩ := ty_int (hp 8 _ _ rfl rfl)
  obtain ⟨z9, rfl⟩ := ty_int (hp 9 _ _ rfl rfl)
  obtain ⟨z10, rfl⟩ := ty_int (hp 10 _ _ rfl rfl)
  obtain ⟨z11, rfl⟩ := ty_int (hp 11 _ _ rfl rfl)
  exact ⟨⟨z0, z1, z2, z3, z4, z5, z6, z7, z8, z9, z10, z11⟩, rfl⟩

theorem ty_err {d : Nat} {cs : List AV} (h : TyR Tryz.prog (d + 1) 38 cs) : ∃ z, cs = [I z] := by
  simp only [TyR, Tryz.underlying38] at h
  obtain ⟨z, h, _⟩ := h
  exact ⟨z, h⟩

theorem le63 {n : Nat} (h : n ≤ maxLen) : n < 2 ^ 63 := by
  have : maxLen + 1 = 2 ^ 63 := by decide
  omega

theorem ty_node {d : Nat} {cs : List AV} (h : TyR Tryz.prog (d + 4) 32 cs) : ∃ n : Node, cs = nodec n ∧ n.path.length < 2 ^ 63 := by
  rw [TyR] at h
  simp only [Tryz.underlying32] at h
  obtain ⟨ps, rfl, hl, hp⟩ := h
  obtain ⟨p0, p1, p2, rfl⟩ : ∃ p0 p1 p2, ps = [p0, p1, p2] := by
    match ps, hl with
    | [p0, p1, p2], _ => exact ⟨p0, p1, p2, rfl⟩
  obtain ⟨i, rfl⟩ := ty_id (hp 0 _ _ rfl rfl)
  obtain ⟨l, rfl, hl2⟩ := ty_ids (hp 1 _ _ rfl rfl)
  obtain ⟨k, b, s, r, w, lv, dv, rfl⟩ := ty_cap (hp 2 _ _ rfl rfl)
  exact ⟨⟨i, l, ⟨k, b, s, r, w, lv, dv⟩⟩, rfl, le63 hl2⟩

theorem ty_req {d : Nat} {cs : List AV} (h : TyR Tryz.prog (d + 5) 34 cs) : ∃ r : Req, cs = reqc r ∧ r.src.path.length < 2 ^ 63 := by
  rw [TyR] at h
  simp only [Tryz.underlying34] at h
  obtain ⟨ps, rfl, hl, hp⟩ := h
  obtain ⟨p0, p1, p2, p3, p4, rfl⟩ : ∃ p0 p1 p2 p3 p4, ps = [p0, p1, p2, p3, p4] := by
    match ps, hl with
    | [p0, p1, p2, p3, p4], _ => exact ⟨p0, p1, p2, p3, p4, rfl⟩
  obtain ⟨i, rfl⟩ := ty_id (hp 0 _ _ rfl rfl)
  obtain ⟨c, rfl⟩ := ty_call (hp 1 _ _ rfl rfl)
  obtain ⟨a, rfl⟩ := ty_int (hp 2 _ _ rfl rfl)
  obtain ⟨b, rfl⟩ := ty_int (hp 3 _ _ rfl rfl)
  obtain ⟨n, rfl, hn⟩ := ty_node (hp 4 _ _ rfl rfl)
  exact ⟨⟨i, c, a, b, n⟩, rfl, hn⟩

theorem ty_slot {d : Nat} {cs : List AV} (h : TyR Tryz.prog (d + 5) 70 cs) : ∃ s : Slot, cs = slotc s ∧ s.node.path.length < 2 ^ 63 := by
  rw [TyR] at h
  simp only [Tryz.underlying70] at h
  obtain ⟨ps, rfl, hl, hp⟩ := h
  obtain ⟨p0, p1, p2, rfl⟩ : ∃ p0 p1 p2, ps = [p0, p1, p2] := by
    match ps, hl with
    | [p0, p1, p2], _ => exact ⟨p0, p1, p2, rfl⟩
  obtain ⟨n, rfl, hn⟩ := ty_node (hp 0 _ _ rfl rfl)
  obtain ⟨a, rfl⟩ := ty_int (hp 1 _ _ rfl rfl)
  obtain ⟨i, rfl⟩ := ty_id (hp 2 _ _ rfl rfl)
  exact ⟨⟨n, a, i⟩, rfl, hn⟩

theorem ty_entry {d : Nat} {cs : List AV} (h : TyR Tryz.prog (d + 5) 140 cs) : ∃ s : Entry, cs = entryc s ∧ s.node.path.length < 2 ^ 63 := by
  rw [TyR] at h
  simp only [Tryz.underlying140] at h
  obtain ⟨ps, rfl, hl, hp⟩ := h
  obtain ⟨p0, p1, p2, rfl⟩ : ∃ p0 p1 p2, ps = [p0, p1, p2] := by
    match ps, hl with
    | [p0, p1, p2], _ => exact ⟨p0, p1, p2, rfl⟩
  obtain ⟨a, rfl⟩ := ty_int (hp 0 _ _ rfl rfl)
  obtain ⟨b, rfl⟩ := ty_int (hp 1 _ _ rfl rfl)
  obtain ⟨n, rfl, hn⟩ := ty_node (hp 2 _ _ rfl rfl)
  exact ⟨⟨a, b, n⟩, rfl, hn⟩

theorem ty_mark {d : Nat} {cs : List AV} (h : TyR Tryz.prog (d + 5) 138 cs) : ∃ m : Mark, cs = markc m := by
  rw [TyR] at h
  simp only [Tryz.underlying138] at h
  obtain ⟨ps, rfl, hl, hp⟩ := h
  obtain ⟨p0, p1, rfl⟩ : ∃ p0 p1, ps = [p0, p1] := by
    match ps, hl with
    | [p0, p1], _ => exact ⟨p0, p1, rfl⟩
  obtain ⟨a, rfl⟩ := ty_int (hp 0 _ _ rfl rfl)
  obtain ⟨i, rfl⟩ := ty_id (hp 1 _ _ rfl rfl)
  exact ⟨⟨a, i⟩, rfl⟩

theorem ty_ans {d : Nat} {cs : List AV} (h : TyR Tryz.prog (d + 5) 75 cs) : ∃ m : Ans, cs = ansc m := by
  rw [TyR] at h
  simp only [Tryz.underlying75] at h
  obtain ⟨ps, rfl, hl, hp⟩ := h
  obtain ⟨p0, p1, rfl⟩ : ∃ p0 p1, ps = [p0, p1] := by
    match ps, hl with
    | [p0, p1], _ => exact ⟨p0, p1, rfl⟩
  obtain ⟨a, rfl⟩ := ty_int (hp 0 _ _ rfl rfl)
  obtain ⟨b, rfl⟩ := ty_err (hp 1 _ _ rfl rfl)
  exact ⟨⟨a, b⟩, rfl⟩

theorem cells70 : Tryz.prog.cellsOf 70 = 15 := by kernel_rfl

theorem cells34 : Tryz.prog.cellsOf 34 = 28 := by kernel_rfl

theorem cells138 : Tryz.prog.cellsOf 138 = 4 := by kernel_rfl

theorem cells75 : Tryz.prog.cellsOf 75 = 2 := by kernel_rfl

theorem cells140 : Tryz.prog.cellsOf 140 = 13 := by kernel_rfl

theorem ty_slots {d : Nat} {cs : List AV} (h : TyR Tryz.prog (d + 6) 22 cs) : ∃ l : List Slot, cs = [.slice false 15 (l.map slotc)] ∧ l.length < 2 ^ 63 ∧ ∀ x ∈ l, x.node.path.length < 2 ^ 63 := by
  rw [TyR] at h
  simp only [Tryz.underlying22, cells70] at h
  obtain ⟨xs, h1, h2, h3⟩ := h
  obtain ⟨l, rfl, h5⟩ := list_lift (f := slotc) (p := fun x => x.node.path.length < 2 ^ 63) xs fun y hy => ty_slot (h3 y hy)
  exact ⟨l, h1, le63 (by simpa using h2), h5⟩

theorem ty_reqs {d : Nat} {cs : List AV} (h : TyR Tryz.prog (d + 6) 23 cs) : ∃ l : List Req, cs = [.slice false 28 (l.map reqc)] ∧ l.length < 2 ^ 63 ∧ ∀ x ∈ l, x.src.path.length < 2 ^ 63 := by
  rw [TyR] at h
  simp only [Tryz.underlying23, cells34] at h
  obtain ⟨xs, h1, h2, h3⟩ := h
  obtain ⟨l, rfl, h5⟩ := list_lift (f := reqc) (p := fun x => x.src.path.length < 2 ^ 63) xs fun y hy => ty_req (h3 y hy)
  exact ⟨l, h1, le63 (by simpa using h2), h5⟩

theorem ty_entries {d : Nat} {cs : List AV} (h : TyR Tryz.prog (d + 6) 60 cs) : ∃ l : List Entry, cs = [.slice false 13 (l.map entryc)] ∧ l.length < 2 ^ 63 ∧ ∀ x ∈ l, x.node.path.length < 2 ^ 63 := by
  rw [TyR] at h
  simp only [Tryz.underlying60, cells140] at h
  obtain ⟨xs, h1, h2, h3⟩ := h
  obtain ⟨l, rfl, h5⟩ := list_lift (f := entryc) (p := fun x => x.node.path.length < 2 ^ 63) xs fun y hy => ty_entry (h3 y hy)
  exact ⟨l, h1, le63 (by simpa using h2), h5⟩

theorem ty_marks {d : Nat} {cs : List AV} (h : TyR Tryz.prog (d + 6) 58 cs) : ∃ l : List Mark, cs = [.slice false 4 (l.map markc)] ∧ l.length < 2 ^ 63 := by
  rw [TyR] at h
  simp only [Tryz.underlying58, cells138] at h
  obtain ⟨xs, h1, h2, h3⟩ := h
  obtain ⟨l, rfl, h5⟩ := list_lift (f := markc) (p := fun _ => True) xs fun y hy => (ty_mark (h3 y hy)).elim fun a h => ⟨a, h, trivial⟩
  exact ⟨l, h1, le63 (by simpa using h2)⟩

theorem ty_anss {d : Nat} {cs : List AV} (h : TyR Tryz.prog (d + 6) 59 cs) : ∃ l : List Ans, cs = [.slice false 2 (l.map ansc)] ∧ l.length < 2 ^ 63 := by
  rw [TyR] at h
  simp only [Tryz.underlying59, cells75] at h
  obtain ⟨xs, h1, h2, h3⟩ := h
  obtain ⟨l, rfl, h5⟩ := list_lift (f := ansc) (p := fun _ => True) xs fun y hy => (ty_ans (h3 y hy)).elim fun a h => ⟨a, h, trivial⟩
  exact ⟨l, h1, le63 (by simpa using h2)⟩

def statec (s : State) : List AV := [.slice false 15 (s.slots.map slotc), .slice false 28 (s.pending.map reqc), .slice false 4 (s.marks.map markc), .slice false 2 (s.answers.map ansc), .slice false 13 (s.entries.map entryc), .slice false 3 (idCells s.commits)]

theorem ty_state {d : Nat} {cs : List AV} (h : TyR Tryz.prog (d + 7) 62 cs) : ∃ s : State, cs = statec s ∧ s.Fits := by
  rw [TyR] at h
  simp only [Tryz.underlying62] at h
  obtain ⟨ps, rfl, hl, hp⟩ := h
  obtain ⟨p0, p1, p2, p3, p4, p5, rfl⟩ : ∃ p0 p1 p2 p3 p4 p5, ps = [p0, p1, p2, p3, p4, p5] := by
    match ps, hl with
    | [p0, p1, p2, p3, p4, p5], _ => exact ⟨p0, p1, p2, p3, p4, p5, rfl⟩
  obtain ⟨a, rfl, a1, a2⟩ := ty_slots (hp 0 _ _ rfl rfl)
  obtain ⟨b, rfl, b1, b2⟩ := ty_reqs (hp 1 _ _ rfl rfl)
  obtain ⟨c, rfl, c1⟩ := ty_marks (hp 2 _ _ rfl rfl)
  obtain ⟨d, rfl, d1⟩ := ty_anss (hp 3 _ _ rfl rfl)
  obtain ⟨e, rfl, e1, e2⟩ := ty_entries (hp 4 _ _ rfl rfl)
  obtain ⟨f, rfl, f1⟩ := ty_ids (hp 5 _ _ rfl rfl)
  exact ⟨⟨a, b, c, d, e, f⟩, rfl, ⟨a1, b1, c1, d1, e1, le63 f1, a2, b2, e2⟩⟩

theorem arg_req {x : AV} (h : ArgTy Tryz.prog 12 34 x) : ∃ r : Req, x = .agg (reqc r) ∧ r.src.path.length < 2 ^ 63 := by
  simp only [ArgTy, Tryz.underlying34] at h
  obtain ⟨cs, rfl, h⟩ := h
  obtain ⟨r, rfl, hr⟩ := ty_req h
  exact ⟨r, rfl, hr⟩

theorem arg_state {x : AV} (h : ArgTy Tryz.prog 12 62 x) : ∃ s : State, x = .agg (statec s) ∧ s.Fits := by
  simp only [ArgTy, Tryz.underlying62] at h
  obtain ⟨cs, rfl, h⟩ := h
  obtain ⟨r, rfl, hr⟩ := ty_state h
  exact ⟨r, rfl, hr⟩

end Go.Proofs.YtmgfkjonkdfedaaGreat
end

section
namespace Go.Proofs.YtmgfkjonkdfedaaGreat
open Go Go.AM
set_option linter.unusedSimpArgs false
set_option linter.unusedVariables false
set_option maxRecDepth 100000

theorem ints_len (l : List Int) : (intCells l).length = l.length := by simp [intCells]

theorem ints_take (l : List Int) (n : Nat) : (intCells l).take n = intCells (l.take n) := by simp [intCells, List.map_take]

def numOk (z : Int) : Bool := decide (0 ≤ z ∧ z ≤ 1073741824)

def moveOk (m : Move) : Bool := regOk m.region && coreOk m.to

def ltI (a b : Int) : Bool := decide (a < b)

def coresOk (l : List Int) : Bool := l.all coreOk && ascB ltI l

theorem s68 (l : List Int) (hl : l.length < 2 ^ 63) (a : Int) : ∃ r, g68 (intCells l) a = some r ∧ cop .geq r 0 = l.any (fun x => decide (a = x)) := by
  rw [g68_eq, ints_len]
  have := scan_idx (F := fun k i => g68L0 k (intCells l) a (l.length : Int) i) (n := l.length) (fun i => !atB (fun x => !decide (a = x)) l i) hl
    (fun k i hi => by
      show g68L0 (k + 1) _ _ _ _ = _
      rw [g68L0_eq, if_pos (lss_t hi)]
      refine (elem_ints hi _).trans ?_
      rw [inc_i hi hl, atB_at _ hi, Bool.not_not]
      rfl)
    (fun k i hi => by show g68L0 (k + 1) _ _ _ _ = _; rw [g68L0_eq, if_neg (lss_f hi)])
  rw [any_at] at this
  have e : (!(l.all fun x => !decide (a = x))) = l.any (fun x => decide (a = x)) := by
    rw [List.any_eq_not_all_not]
  rw [e] at this
  exact this

theorem s42 (l : List Int) (hl : l.length < 2 ^ 63) (a : Int) : g42 (intCells l) a = some (l.any (fun x => decide (a = x))) := by
  obtain ⟨r, h1, h2⟩ := s68 l hl a
  rw [g42_eq, h1, Option.bind_some, h2]

theorem s50 (l : List Int) (hl : l.length < 2 ^ 63) (a : Int) : g50 (intCells l) a = some (l.any (fun x => decide (a = x))) := by
  rw [g50_eq]
  have := scan_all (F := fun k i => g50L0 k (intCells l) a i) (n := l.length) (fin := some false) (bad := some true) (atB (fun x => !decide (a = x)) l) hl 0 (by omega)
    (fun k i _ hi => by
      show g50L0 (k + 1) (intCells l) _ _ = _
      rw [g50L0_eq, ints_len, if_pos (lss_t hi)]
      refine (elem_ints hi _).trans ?_
      rw [inc_i hi hl, atB_at _ hi]
      generalize g50L0 k (intCells l) a ((i + 1 : Nat) : Int) = X
      generalize l[i] = t
      by_cases h : a = t
      · rw [if_pos (by simp only [CQ]; exact h.symm), if_neg (by simp [h])]
      · rw [if_neg (by simp only [CQ]; exact fun he => h he.symm), if_pos (by simp [h])])
    (fun k i hi => by show g50L0 (k + 1) (intCells l) _ _ = _; rw [g50L0_eq, ints_len, if_neg (lss_f hi)])
  rw [Nat.sub_zero, all_at] at this
  refine Eq.trans this ?_
  rw [List.any_eq_not_all_not]
  cases l.all (fun x => !decide (a = x)) <;> rfl

def newAt (l : List Int) (i : Nat) : Bool := match l[i]? with | some x => !((l.take i).any (fun y => decide (x = y))) | none => true

def viewOk (v : View) : Bool := numOk v.number && decide (v.members.length ≤ 32) && decide (v.owners.length ≤ 16) && (List.range' 0 v.members.length).all (fun i => atB coreOk v.members i && newAt v.members i) && v.owners.all coreOk

theorem new_at {l : List Int} {i : Nat} (hi : i < l.length) : newAt l i = !((l.take i).any (fun y => decide (l[i] = y))) := by
  unfold newAt; rw [List.getElem?_eq_getElem hi]

structure View.Fits (v : View) : Prop where
  members : v.members.length < 2 ^ 63
  owners : v.owners.length < 2 ^ 63

structure Report.Fits (r : Report) : Prop where
  view : r.view.Fits
  state : r.state.Fits
  next : r.next.Fits
  proposal : r.proposal.Fits

def repOk (r : Report) : Bool := coreOk r.core && viewOk r.view && stateOk r.state && viewOk r.next && stateOk r.proposal

end Go.Proofs.YtmgfkjonkdfedaaGreat
end

section
namespace Go.Proofs.YtmgfkjonkdfedaaGreat
open Go Go.AM
set_option linter.unusedSimpArgs false
set_option linter.unusedVariables false
set_option maxRecDepth 100000

structure Msg where
  kind : Int
  view : Int
  frm : Int
  to : Int
  round : Int
  region : Int
  slot : Int
  op : Id
  err : Int
  settled : Bool
  req : Req
  ids : List Id
  nodes : List Node
  cores : List Int
  moves : List Move
  base : Int
  next : View
  state : State
  report : Report

structure Msg.Fits (m : Msg) : Prop where
  req : m.req.src.path.length < 2 ^ 63
  ids : m.ids.length < 2 ^ 63
  nodes : m.nodes.length < 2 ^ 63
  node : ∀ x ∈ m.nodes, x.path.length < 2 ^ 63
  cores : m.cores.length < 2 ^ 63
  moves : m.moves.length < 2 ^ 63
  next : m.next.Fits
  state : m.state.Fits
  report : m.report.Fits

def msgT (m : Msg) : Qt2 := (m.kind, m.view, m.frm, m.to, m.round, m.region, m.slot, m.op.core, m.op.op, m.op.part, m.err, m.settled, m.req.id.core, m.req.id.op, m.req.id.part, m.req.call.kind, m.req.call.slot, m.req.call.dest, m.req.call.core, m.req.call.mask, m.req.call.object, m.req.call.bits, m.req.call.level, m.req.call.offset, m.req.call.count, m.req.call.index, m.req.call.addr, m.req.region, m.req.width, m.req.src.id.core, m.req.src.id.op, m.req.src.id.part, (idCells m.req.src.path), m.req.src.cap.kind, m.req.src.cap.base, m.req.src.cap.bits, m.req.src.cap.rights, m.req.src.cap.width, m.req.src.cap.level, m.req.src.cap.device, (idCells m.ids), (m.nodes.map nodec), (intCells m.cores), (m.moves.map movec), m.base, m.next.number, (intCells m.next.members), (intCells m.next.owners), (m.state.slots.map slotc), (m.state.pending.map reqc), (m.state.marks.map markc), (m.state.answers.map ansc), (m.state.entries.map entryc), (idCells m.state.commits), m.report.core, m.report.view.number, (intCells m.report.view.members), (intCells m.report.view.owners), (m.report.state.slots.map slotc), (m.report.state.pending.map reqc), (m.report.state.marks.map markc), (m.report.state.answers.map ansc), (m.report.state.entries.map entryc), (idCells m.report.state.commits), m.report.ready, m.report.next.number, (intCells m.report.next.members), (intCells m.report.next.owners), (m.report.proposal.slots.map slotc), (m.report.proposal.pending.map reqc), (m.report.proposal.marks.map markc), (m.report.proposal.answers.map ansc), (m.report.proposal.entries.map entryc), (idCells m.report.proposal.commits))

def noCall : Call := ⟨0, 0, 0, 0, 0, 0, 0, 0, 0, 0, 0, 0⟩

def noReq : Req := ⟨zid, noCall, 0, 0, noNode⟩

def noView : View := ⟨0, [], []⟩

def noState : State := ⟨[], [], [], [], [], []⟩

def noReport : Report := ⟨0, noView, noState, false, noView, noState⟩

/-- A field set to zero. -/
def clr (m : Msg) : Nat → Msg
  | 0 => { m with region := 0 }
  | 1 => { m with req := noReq }
  | 2 => { m with op := zid }
  | 3 => { m with err := 0 }
  | 4 => { m with settled := false }
  | 5 => { m with nodes := [] }
  | 6 => { m with slot := 0 }
  | 7 => { m with ids := [] }
  | 8 => { m with round := 0 }
  | 9 => { m with cores := [] }
  | 10 => { m with report := noReport }
  | 11 => { m with base := 0 }
  | 12 => { m with next := noView }
  | 13 => { m with state := noState }
  | 14 => { m with moves := [] }
  | _ => m

def fieldOk (m : Msg) : Nat → Bool
  | 0 => regOk m.region
  | 1 => reqOk m.req
  | 2 => opOk m.op
  | 3 => errOk m.err
  | 5 => decide (m.nodes.length ≤ 8) && (decide (m.kind ≠ 4) || decide (m.nodes.length = 1)) && m.nodes.all nodeOk
  | 6 => slotOk m.slot
  | 7 => decide (m.ids.length ≤ 64) && m.ids.all idOk
  | 8 => numOk m.round
  | 9 => coresOk m.cores
  | 10 => repOk m.report
  | 11 => numOk m.base
  | 12 => viewOk m.next
  | 13 => stateOk m.state
  | 14 => decide (m.moves.length ≤ 16) && m.moves.all moveOk
  | _ => true

def zReq (r : Req) : Bool := decide (r.id = zid) && decide (r.call.kind = 0 ∧ r.call.slot = 0 ∧ r.call.dest = 0 ∧ r.call.core = 0 ∧ r.call.mask = 0 ∧ r.call.object = 0 ∧ r.call.bits = 0 ∧ r.call.level = 0 ∧ r.call.offset = 0 ∧ r.call.count = 0 ∧ r.call.index = 0 ∧ r.call.addr = 0) && decide (r.region = 0) && decide (r.width = 0) && sameN r.src noNode

def zView (v : View) : Bool := decide (v.number = 0) && decide (v.members.length = 0) && decide (v.owners.length = 0)

def zState (s : State) : Bool := decide (s.slots.length = 0) && decide (s.pending.length = 0) && decide (s.marks.length = 0) && decide (s.answers.length = 0) && decide (s.entries.length = 0) && decide (s.commits.length = 0)

def zReport (r : Report) : Bool := decide (r.core = 0) && zView r.view && zState r.state && !r.ready && zView r.next && zState r.proposal

theorem eql0 (n : Nat) : cop .eql (n : Int) 0 = decide (n = 0) := by rw [bool_iff]; simp only [CQ]; omega

theorem eqlz (z : Int) : cop .eql z 0 = decide (z = 0) := rfl

/-- A field is zero. -/
def zf (m : Msg) : Nat → Bool
  | 0 => decide (m.region = 0)
  | 1 => zReq m.req
  | 2 => decide (m.op = zid)
  | 3 => decide (m.err = 0)
  | 4 => !m.settled
  | 5 => decide (m.nodes.length = 0)
  | 6 => decide (m.slot = 0)
  | 7 => decide (m.ids.length = 0)
  | 8 => decide (m.round = 0)
  | 9 => decide (m.cores.length = 0)
  | 10 => zReport m.report
  | 11 => decide (m.base = 0)
  | 12 => zView m.next
  | 13 => zState m.state
  | 14 => decide (m.moves.length = 0)
  | _ => true

def zMsg (m : Msg) : Bool := (List.range 15).all (zf m)

theorem and_if (b : Bool) {y : Bool} {x : Option Bool} (h : x = some y) : (if b = true then x else some false) = some (b && y) := by cases b <;> simp [h]

end Go.Proofs.YtmgfkjonkdfedaaGreat
end

section
namespace Go.Proofs.YtmgfkjonkdfedaaGreat
open Go Go.AM
set_option linter.unusedSimpArgs false
set_option linter.unusedVariables false
set_option maxRecDepth 100000

/-- The fields of a kind of message. -/
def kf : Nat → List Nat
  | 1 => [0, 1]
  | 2 => [0, 2, 3, 4, 5]
  | 3 => [0, 2]
  | 4 => [0, 2, 6, 5]
  | 5 => [0, 2, 3]
  | 6 => [0, 2, 7]
  | 7 => [0, 2]
  | 8 => [0, 2]
  | 9 => [0, 2]
  | 10 => [0, 2]
  | 11 => [0, 2]
  | 12 => [8, 9]
  | 13 => [8, 10]
  | 14 => [8, 11, 9, 12, 13]
  | 15 => [8]
  | 16 => [8]
  | 17 => [9, 14]
  | _ => []

def fc (l : List Nat) : List (List AV) := l.map fun f : Nat => [I (f : Int)]

theorem kf_lt (n : Nat) : ∀ f ∈ kf n, f < 15 := by
  intro f hf
  unfold kf at hf
  split at hf <;> simp at hf <;> omega

theorem elem_fc {γ : Type} {l : List Nat} {i : Nat} (h : i < l.length) (k : Int → Option γ) : elemK (fc l) (i : Int) [.int .i64] k = k (l[i] : Int) := elem_map (f := fun n : Nat => [I (n : Int)]) (sh := [.int .i64]) (v := fun n : Nat => (n : Int)) (fun _ => rfl) h k

theorem clr_path (r : Msg) (f : Nat) (h : r.req.src.path.length < 2 ^ 63) : (clr r f).req.src.path.length < 2 ^ 63 := by
  unfold clr
  split <;> first | exact h | (show ([] : List Id).length < 2 ^ 63; simp)

def kindOk (k : Int) : Bool := decide (1 ≤ k ∧ k ≤ 17)

def headOk (m : Msg) : Bool := kindOk m.kind && numOk m.view && coreOk m.frm && coreOk m.to

/-- All fields but those of the kind are zero. -/
def rest (n : Nat) (m : Msg) : Bool := (List.range 15).all (fun g => (kf n).contains g || zf m g)

def validB (m : Msg) : Bool := headOk m && ((kf m.kind.toNat).all (fieldOk m) && rest m.kind.toNat m)

theorem rest_eq (m : Msg) : ∀ n : Nat, 1 ≤ n → n ≤ 17 → zMsg ((kf n).foldl clr m) = rest n m
  | 1, _, _ => by kernel_rfl
  | 2, _, _ => by kernel_rfl
  | 3, _, _ => by kernel_rfl
  | 4, _, _ => by kernel_rfl
  | 5, _, _ => by kernel_rfl
  | 6, _, _ => by kernel_rfl
  | 7, _, _ => by kernel_rfl
  | 8, _, _ => by kernel_rfl
  | 9, _, _ => by kernel_rfl
  | 10, _, _ => by kernel_rfl
  | 11, _, _ => by kernel_rfl
  | 12, _, _ => by kernel_rfl
  | 13, _, _ => by kernel_rfl
  | 14, _, _ => by kernel_rfl
  | 15, _, _ => by kernel_rfl
  | 16, _, _ => by kernel_rfl
  | 17, _, _ => by kernel_rfl
  | n + 18, _, h => absurd h (by omega)

end Go.Proofs.YtmgfkjonkdfedaaGreat
end

section
namespace Go.Proofs.YtmgfkjonkdfedaaGreat
open Go Go.AM
set_option linter.unusedSimpArgs false
set_option linter.unusedVariables false
set_option maxRecDepth 100000

theorem eqlD (a b : Int) : cop .eql a b = decide (a = b) := rfl

def at2 {α : Type} (q : α → α → Bool) (l m : List α) (i : Nat) : Bool := match l[i]?, m[i]? with | some a, some b => q a b | _, _ => true

def sameL {α : Type} (q : α → α → Bool) (l m : List α) : Bool := decide (l.length = m.length) && (List.range' 0 l.length).all (at2 q l m)

theorem at2_at {α : Type} (q : α → α → Bool) {l m : List α} {i : Nat} (h : i < l.length) (h' : i < m.length) : at2 q l m i = q l[i] m[i] := by
  unfold at2
  rw [List.getElem?_eq_getElem h, List.getElem?_eq_getElem h']

def sameR (a b : Req) : Bool := decide (a.id.core = b.id.core ∧ a.id.op = b.id.op ∧ a.id.part = b.id.part) && decide (a.call.kind = b.call.kind ∧ a.call.slot = b.call.slot ∧ a.call.dest = b.call.dest ∧ a.call.core = b.call.core ∧ a.call.mask = b.call.mask ∧ a.call.object = b.call.object ∧ a.call.bits = b.call.bits ∧ a.call.level = b.call.level ∧ a.call.offset = b.call.offset ∧ a.call.count = b.call.count ∧ a.call.index = b.call.index ∧ a.call.addr = b.call.addr) && decide (a.region = b.region) && decide (a.width = b.width) && sameN a.src b.src

theorem s21 (a b : Req) (ha : a.src.path.length < 2 ^ 63) (hb : b.src.path.length < 2 ^ 63) : g21 a.id.core a.id.op a.id.part a.call.kind a.call.slot a.call.dest a.call.core a.call.mask a.call.object a.call.bits a.call.level a.call.offset a.call.count a.call.index a.call.addr a.region a.width a.src.id.core a.src.id.op a.src.id.part (idCells a.src.path) a.src.cap.kind a.src.cap.base a.src.cap.bits a.src.cap.rights a.src.cap.width a.src.cap.level a.src.cap.device b.id.core b.id.op b.id.part b.call.kind b.call.slot b.call.dest b.call.core b.call.mask b.call.object b.call.bits b.call.level b.call.offset b.call.count b.call.index b.call.addr b.region b.width b.src.id.core b.src.id.op b.src.id.part (idCells b.src.path) b.src.cap.kind b.src.cap.base b.src.cap.bits b.src.cap.rights b.src.cap.width b.src.cap.level b.src.cap.device = some (sameR a b) := by
  rw [g21_eq, s34' _ _ ha hb, Option.bind_some]
  unfold sameR
  repeat' split
  all_goals (refine congrArg some ?_; rw [bool_iff]; simp only [CQ] at * <;> grind)

theorem s53 (l m : List Node) (hl : l.length < 2 ^ 63) (pl : ∀ x ∈ l, x.path.length < 2 ^ 63) (pm : ∀ x ∈ m, x.path.length < 2 ^ 63) : g53 (l.map nodec) (m.map nodec) = some (sameL sameN l m) := by
  rw [g53_eq, List.length_map, List.length_map]
  unfold sameL
  by_cases h : l.length = m.length
  · rw [if_neg (show ¬ (cop .neq (l.length : Int) (m.length : Int)) = true by simp only [CQ]; omega), decide_eq_true h, Bool.true_and]
    have := scan_all (F := fun k i => g53L0 k (l.map nodec) (m.map nodec) i) (n := l.length) (fin := some true) (bad := some false) (at2 sameN l m) hl 0 (by omega)
      (fun k i _ hi => by
        have hi' : i < m.length := by omega
        refine (g53L0_eq ..).trans ?_
        rw [List.length_map, if_pos (lss_t hi)]
        refine (elem_nodes hi _).trans ?_
        refine (elem_nodes hi' _).trans ?_
        rw [inc_i hi hl, at2_at _ hi hi']
        generalize g53L0 k (l.map nodec) (m.map nodec) ((i + 1 : Nat) : Int) = X
        try simp only [elem_nodes hi, elem_nodes hi', nodeV, d2, d4, d8, d16, s34' _ _ (pl _ (List.getElem_mem hi)) (pm _ (List.getElem_mem hi')), Option.bind_some]
        skip
        repeat' split
        all_goals (simp only [eqlD, CQ] at * <;> grind))
      (fun k i hi => by refine (g53L0_eq ..).trans ?_; rw [List.length_map, if_neg (lss_f hi)])
    rw [Nat.sub_zero] at this
    refine Eq.trans this ?_
    cases (List.range' 0 l.length).all (at2 sameN l m) <;> rfl
  · rw [if_pos (show (cop .neq (l.length : Int) (m.length : Int)) = true by simp only [CQ]; omega), decide_eq_false h]
    rfl

def sameI : Int → Int → Bool := fun a b => decide (a = b)

theorem s54 (l m : List Int) (hl : l.length < 2 ^ 63) : g54 (intCells l) (intCells m) = some (sameL sameI l m) := by
  rw [g54_eq, ints_len, ints_len]
  unfold sameL
  by_cases h : l.length = m.length
  · rw [if_neg (show ¬ (cop .neq (l.length : Int) (m.length : Int)) = true by simp only [CQ]; omega), decide_eq_true h, Bool.true_and]
    have := scan_all (F := fun k i => g54L0 k (intCells l) (intCells m) i) (n := l.length) (fin := some true) (bad := some false) (at2 sameI l m) hl 0 (by omega)
      (fun k i _ hi => by
        have hi' : i < m.length := by omega
        refine (g54L0_eq ..).trans ?_
        rw [ints_len, if_pos (lss_t hi)]
        refine (elem_ints hi _).trans ?_
        refine (elem_ints hi' _).trans ?_
        rw [inc_i hi hl, at2_at _ hi hi']
        generalize g54L0 k (intCells l) (intCells m) ((i + 1 : Nat) : Int) = X
        try simp only [elem_ints hi, elem_ints hi', d2, d4, d8, d16, Option.bind_some]
        generalize l[i] = a
        generalize m[i] = b
        unfold sameI
        repeat' split
        all_goals (simp only [eqlD, CQ] at * <;> grind))
      (fun k i hi => by refine (g54L0_eq ..).trans ?_; rw [ints_len, if_neg (lss_f hi)])
    rw [Nat.sub_zero] at this
    refine Eq.trans this ?_
    cases (List.range' 0 l.length).all (at2 sameI l m) <;> rfl
  · rw [if_pos (show (cop .neq (l.length : Int) (m.length : Int)) = true by simp only [CQ]; omega), decide_eq_false h]
    rfl

def sameMv : Move → Move → Bool := fun a b => decide (a.region = b.region ∧ a.to = b.to)

theorem s55 (l m : List Move) (hl : l.length < 2 ^ 63) : g55 (l.map movec) (m.map movec) = some (sameL sameMv l m) := by
  rw [g55_eq, List.length_map, List.length_map]
  unfold sameL
  by_cases h : l.length = m.length
  · rw [if_neg (show ¬ (cop .neq (l.length : Int) (m.length : Int)) = true by simp only [CQ]; omega), decide_eq_true h, Bool.true_and]
    have := scan_all (F := fun k i => g55L0 k (l.map movec) (m.map movec) i) (n := l.length) (fin := some true) (bad := some false) (at2 sameMv l m) hl 0 (by omega)
      (fun k i _ hi => by
        have hi' : i < m.length := by omega
        refine (g55L0_eq ..).trans ?_
        rw [List.length_map, if_pos (lss_t hi)]
        refine (elem_moves hi _).trans ?_
        refine (elem_moves hi' _).trans ?_
        rw [inc_i hi hl, at2_at _ hi hi']
        generalize g55L0 k (l.map movec) (m.map movec) ((i + 1 : Nat) : Int) = X
        try simp only [elem_moves hi, elem_moves hi', d2, d4, d8, d16, Option.bind_some]
        generalize l[i] = a
        generalize m[i] = b
        unfold sameMv
        repeat' split
        all_goals (simp only [eqlD, CQ] at * <;> grind))
      (fun k i hi => by refine (g55L0_eq ..).trans ?_; rw [List.length_map, if_neg (lss_f hi)])
    rw [Nat.sub_zero] at this
    refine Eq.trans this ?_
    cases (List.range' 0 l.length).all (at2 sameMv l m) <;> rfl
  · rw [if_pos (show (cop .neq (l.length : Int) (m.length : Int)) = true by simp only [CQ]; omega), decide_eq_false h]
    rfl

def sameS : Slot → Slot → Bool := fun a b => decide (a.op = b.op) && decide (a.lock.core = b.lock.core ∧ a.lock.op = b.lock.op ∧ a.lock.part = b.lock.part) && sameN a.node b.node

theorem s13 (l m : List Slot) (hl : l.length < 2 ^ 63) (pl : ∀ x ∈ l, x.node.path.length < 2 ^ 63) (pm : ∀ x ∈ m, x.node.path.length < 2 ^ 63) : g13 (l.map slotc) (m.map slotc) = some (sameL sameS l m) := by
  rw [g13_eq, List.length_map, List.length_map]
  unfold sameL
  by_cases h : l.length = m.length
  · rw [if_neg (show ¬ (cop .neq (l.length : Int) (m.length : Int)) = true by simp only [CQ]; omega), decide_eq_true h, Bool.true_and]
    have := scan_all (F := fun k i => g13L0 k (l.map slotc) (m.map slotc) i) (n := l.length) (fin := some true) (bad := some false) (at2 sameS l m) hl 0 (by omega)
      (fun k i _ hi => by
        have hi' : i < m.length := by omega
        refine (g13L0_eq ..).trans ?_
        rw [List.length_map, if_pos (lss_t hi)]
        refine (elem_slots hi _).trans ?_
        refine (elem_slots hi' _).trans ?_
        rw [inc_i hi hl, at2_at _ hi hi']
        generalize g13L0 k (l.map slotc) (m.map slotc) ((i + 1 : Nat) : Int) = X
        try simp only [elem_slots hi, elem_slots hi', slotV, d2, d4, d8, d16, s34' _ _ (pl _ (List.getElem_mem hi)) (pm _ (List.getElem_mem hi')), Option.bind_some]
        generalize l[i] = a
        generalize m[i] = b
        unfold sameS
        repeat' split
        all_goals (simp only [eqlD, CQ] at * <;> grind))
      (fun k i hi => by refine (g13L0_eq ..).trans ?_; rw [List.length_map, if_neg (lss_f hi)])
    rw [Nat.sub_zero] at this
    refine Eq.trans this ?_
    cases (List.range' 0 l.length).all (at2 sameS l m) <;> rfl
  · rw [if_pos (show (cop .neq (l.length : Int) (m.length : Int)) = true by simp only [CQ]; omega), decide_eq_false h]
    rfl

theorem s14 (l m : List Req) (hl : l.length < 2 ^ 63) (pl : ∀ x ∈ l, x.src.path.length < 2 ^ 63) (pm : ∀ x ∈ m, x.src.path.length < 2 ^ 63) : g14 (l.map reqc) (m.map reqc) = some (sameL sameR l m) := by
  rw [g14_eq, List.length_map, List.length_map]
  unfold sameL
  by_cases h : l.length = m.length
  · rw [if_neg (show ¬ (cop .neq (l.length : Int) (m.length : Int)) = true by simp only [CQ]; omega), decide_eq_true h, Bool.true_and]
    have := scan_all (F := fun k i => g14L0 k (l.map reqc) (m.map reqc) i) (n := l.length) (fin := some true) (bad := some false) (at2 sameR l m) hl 0 (by omega)
      (fun k i _ hi => by
        have hi' : i < m.length := by omega
        refine (g14L0_eq ..).trans ?_
        rw [List.length_map, if_pos (lss_t hi)]
        refine (elem_reqs hi _).trans ?_
        refine (elem_reqs hi' _).trans ?_
        rw [inc_i hi hl, at2_at _ hi hi']
        generalize g14L0 k (l.map reqc) (m.map reqc) ((i + 1 : Nat) : Int) = X
        try simp only [elem_reqs hi, elem_reqs hi', reqV, d2, d4, d8, d16, s21 _ _ (pl _ (List.getElem_mem hi)) (pm _ (List.getElem_mem hi')), Option.bind_some]
        skip
        repeat' split
        all_goals (simp only [eqlD, CQ] at * <;> grind))
      (fun k i hi => by refine (g14L0_eq ..).trans ?_; rw [List.length_map, if_neg (lss_f hi)])
    rw [Nat.sub_zero] at this
    refine Eq.trans this ?_
    cases (List.range' 0 l.length).all (at2 sameR l m) <;> rfl
  · rw [if_pos (show (cop .neq (l.length : Int) (m.length : Int)) = true by simp only [CQ]; omega), decide_eq_false h]
    rfl

def sameMk : Mark → Mark → Bool := fun a b => decide (a.region = b.region ∧ a.op.core = b.op.core ∧ a.op.op = b.op.op ∧ a.op.part = b.op.part)

theorem s72 (l m : List Mark) (hl : l.length < 2 ^ 63) : g72 (l.map markc) (m.map markc) = some (sameL sameMk l m) := by
  rw [g72_eq, List.length_map, List.length_map]
  unfold sameL
  by_cases h : l.length = m.length
  · rw [if_neg (show ¬ (cop .neq (l.length : Int) (m.length : Int)) = true by simp only [CQ]; omega), decide_eq_true h, Bool.true_and]
    have := scan_all (F := fun k i => g72L0 k (l.map markc) (m.map markc) i) (n := l.length) (fin := some true) (bad := some false) (at2 sameMk l m) hl 0 (by omega)
      (fun k i _ hi => by
        have hi' : i < m.length := by omega
        refine (g72L0_eq ..).trans ?_
        rw [List.length_map, if_pos (lss_t hi)]
        refine (elem_marks hi _).trans ?_
        refine (elem_marks hi' _).trans ?_
        rw [inc_i hi hl, at2_at _ hi hi']
        generalize g72L0 k (l.map markc) (m.map markc) ((i + 1 : Nat) : Int) = X
        try simp only [elem_marks hi, elem_marks hi', d2, d4, d8, d16, Option.bind_some]
        generalize l[i] = a
        generalize m[i] = b
        unfold sameMk
        repeat' split
        all_goals (simp only [eqlD, CQ] at * <;> grind))
      (fun k i hi => by refine (g72L0_eq ..).trans ?_; rw [List.length_map, if_neg (lss_f hi)])
    rw [Nat.sub_zero] at this
    refine Eq.trans this ?_
    cases (List.range' 0 l.length).all (at2 sameMk l m) <;> rfl
  · rw [if_pos (show (cop .neq (l.length : Int) (m.length : Int)) = true by simp only [CQ]; omega), decide_eq_false h]
    rfl

def sameA : Ans → Ans → Bool := fun a b => decide (a.op = b.op ∧ a.err = b.err)

theorem s73 (l m : List Ans) (hl : l.length < 2 ^ 63) : g73 (l.map ansc) (m.map ansc) = some (sameL sameA l m) := by
  rw [g73_eq, List.length_map, List.length_map]
  unfold sameL
  by_cases h : l.length = m.length
  · rw [if_neg (show ¬ (cop .neq (l.length : Int) (m.length : Int)) = true by simp only [CQ]; omega), decide_eq_true h, Bool.true_and]
    have := scan_all (F := fun k i => g73L0 k (l.map ansc) (m.map ansc) i) (n := l.length) (fin := some true) (bad := some false) (at2 sameA l m) hl 0 (by omega)
      (fun k i _ hi => by
        have hi' : i < m.length := by omega
        refine (g73L0_eq ..).trans ?_
        rw [List.length_map, if_pos (lss_t hi)]
        refine (elem_anss hi _).trans ?_
        refine (elem_anss hi' _).trans ?_
        rw [inc_i hi hl, at2_at _ hi hi']
        generalize g73L0 k (l.map ansc) (m.map ansc) ((i + 1 : Nat) : Int) = X
        try simp only [elem_anss hi, elem_anss hi', d2, d4, d8, d16, Option.bind_some]
        generalize l[i] = a
        generalize m[i] = b
        unfold sameA
        repeat' split
        all_goals (simp only [eqlD, CQ] at * <;> grind))
      (fun k i hi => by refine (g73L0_eq ..).trans ?_; rw [List.length_map, if_neg (lss_f hi)])
    rw [Nat.sub_zero] at this
    refine Eq.trans this ?_
    cases (List.range' 0 l.length).all (at2 sameA l m) <;> rfl
  · rw [if_pos (show (cop .neq (l.length : Int) (m.length : Int)) = true by simp only [CQ]; omega), decide_eq_false h]
    rfl

def sameE : Entry → Entry → Bool := fun a b => decide (a.core = b.core) && decide (a.slot = b.slot) && sameN a.node b.node

theorem s74 (l m : List Entry) (hl : l.length < 2 ^ 63) (pl : ∀ x ∈ l, x.node.path.length < 2 ^ 63) (pm : ∀ x ∈ m, x.node.path.length < 2 ^ 63) : g74 (l.map entryc) (m.map entryc) = some (sameL sameE l m) := by
  rw [g74_eq, List.length_map, List.length_map]
  unfold sameL
  by_cases h : l.length = m.length
  · rw [if_neg (show ¬ (cop .neq (l.length : Int) (m.length : Int)) = true by simp only [CQ]; omega), decide_eq_true h, Bool.true_and]
    have := scan_all (F := fun k i => g74L0 k (l.map entryc) (m.map entryc) i) (n := l.length) (fin := some true) (bad := some false) (at2 sameE l m) hl 0 (by omega)
      (fun k i _ hi => by
        have hi' : i < m.length := by omega
        refine (g74L0_eq ..).trans ?_
        rw [List.length_map, if_pos (lss_t hi)]
        refine (elem_entries hi _).trans ?_
        refine (elem_entries hi' _).trans ?_
        rw [inc_i hi hl, at2_at _ hi hi']
        generalize g74L0 k (l.map entryc) (m.map entryc) ((i + 1 : Nat) : Int) = X
        try simp only [elem_entries hi, elem_entries hi', entryV, d2, d4, d8, d16, s34' _ _ (pl _ (List.getElem_mem hi)) (pm _ (List.getElem_mem hi')), Option.bind_some]
        generalize l[i] = a
        generalize m[i] = b
        unfold sameE
        repeat' split
        all_goals (simp only [eqlD, CQ] at * <;> grind))
      (fun k i hi => by refine (g74L0_eq ..).trans ?_; rw [List.length_map, if_neg (lss_f hi)])
    rw [Nat.sub_zero] at this
    refine Eq.trans this ?_
    cases (List.range' 0 l.length).all (at2 sameE l m) <;> rfl
  · rw [if_pos (show (cop .neq (l.length : Int) (m.length : Int)) = true by simp only [CQ]; omega), decide_eq_false h]
    rfl

def sameV (a b : View) : Bool := cop .eql a.number b.number && (sameL sameI a.members b.members && sameL sameI a.owners b.owners)

def sameSt (a b : State) : Bool := sameL sameS a.slots b.slots && (sameL sameR a.pending b.pending && (sameL sameMk a.marks b.marks && (sameL sameA a.answers b.answers && (sameL sameE a.entries b.entries && decide (a.commits = b.commits)))))

def sameRep (a b : Report) : Bool := cop .eql a.core b.core && (sameV a.view b.view && (sameSt a.state b.state && ((a.ready == b.ready) && (sameV a.next b.next && sameSt a.proposal b.proposal))))

theorem s56 (a b : View) (h : a.Fits) : g56 a.number (intCells a.members) (intCells a.owners) b.number (intCells b.members) (intCells b.owners) = some (sameV a b) := by
  rw [g56_eq, s54 _ _ h.members, s54 _ _ h.owners]
  exact and_if _ (and_if _ rfl)

theorem s57 (a b : State) (h : a.Fits) (h' : b.Fits) : g57 (a.slots.map slotc) (a.pending.map reqc) (a.marks.map markc) (a.answers.map ansc) (a.entries.map entryc) (idCells a.commits) (b.slots.map slotc) (b.pending.map reqc) (b.marks.map markc) (b.answers.map ansc) (b.entries.map entryc) (idCells b.commits) = some (sameSt a b) := by
  rw [g57_eq, s13 _ _ h.slots h.slot h'.slot, s14 _ _ h.pending h.req h'.req, s72 _ _ h.marks, s73 _ _ h.answers, s74 _ _ h.entries h.entry h'.entry, s52 _ _ h.commits h'.commits]
  exact and_if _ (and_if _ (and_if _ (and_if _ (and_if _ rfl))))

theorem s58 (a b : Report) (h : a.Fits) (h' : b.Fits) : g58 a.core a.view.number (intCells a.view.members) (intCells a.view.owners) (a.state.slots.map slotc) (a.state.pending.map reqc) (a.state.marks.map markc) (a.state.answers.map ansc) (a.state.entries.map entryc) (idCells a.state.commits) a.ready a.next.number (intCells a.next.members) (intCells a.next.owners) (a.proposal.slots.map slotc) (a.proposal.pending.map reqc) (a.proposal.marks.map markc) (a.proposal.answers.map ansc) (a.proposal.entries.map entryc) (idCells a.proposal.commits) b.core b.view.number (intCells b.view.members) (intCells b.view.owners) (b.state.slots.map slotc) (b.state.pending.map reqc) (b.state.marks.map markc) (b.state.answers.map ansc) (b.state.entries.map entryc) (idCells b.state.commits) b.ready b.next.number (intCells b.next.members) (intCells b.next.owners) (b.proposal.slots.map slotc) (b.proposal.pending.map reqc) (b.proposal.marks.map markc) (b.proposal.answers.map ansc) (b.proposal.entries.map entryc) (idCells b.proposal.commits) = some (sameRep a b) := by
  rw [g58_eq, s56 _ _ h.view, s57 _ _ h.state h'.state, s56 _ _ h.next, s57 _ _ h.proposal h'.proposal]
  exact and_if _ (and_if _ (and_if _ (and_if _ (and_if _ rfl))))

theorem nif (c : Bool) {y : Bool} {x : Option Bool} (h : x = some y) : (if c = true then some false else x) = some (!c && y) := by cases c <;> simp [h]

def sameM (a b : Msg) : Bool := !cop .neq a.kind b.kind && (!cop .neq a.view b.view && (!cop .neq a.frm b.frm && (!cop .neq a.to b.to && (!cop .neq a.round b.round && (!cop .neq a.region b.region && (!cop .neq a.slot b.slot && (!(!((cop .eql a.op.core b.op.core) && ((cop .eql a.op.op b.op.op) && ((cop .eql a.op.part b.op.part) && true)))) && (!cop .neq a.err b.err && (!(!(a.settled == b.settled)) && (!cop .neq a.base b.base && (sameR a.req b.req && (decide (a.ids = b.ids) && (sameL sameN a.nodes b.nodes && (sameL sameI a.cores b.cores && (sameL sameMv a.moves b.moves && (sameV a.next b.next && (sameSt a.state b.state && sameRep a.report b.report)))))))))))))))))

theorem s35 (a b : Msg) (h : a.Fits) (h' : b.Fits) : g35 a.kind a.view a.frm a.to a.round a.region a.slot a.op.core a.op.op a.op.part a.err a.settled a.req.id.core a.req.id.op a.req.id.part a.req.call.kind a.req.call.slot a.req.call.dest a.req.call.core a.req.call.mask a.req.call.object a.req.call.bits a.req.call.level a.req.call.offset a.req.call.count a.req.call.index a.req.call.addr a.req.region a.req.width a.req.src.id.core a.req.src.id.op a.req.src.id.part (idCells a.req.src.path) a.req.src.cap.kind a.req.src.cap.base a.req.src.cap.bits a.req.src.cap.rights a.req.src.cap.width a.req.src.cap.level a.req.src.cap.device (idCells a.ids) (a.nodes.map nodec) (intCells a.cores) (a.moves.map movec) a.base a.next.number (intCells a.next.members) (intCells a.next.owners) (a.state.slots.map slotc) (a.state.pending.map reqc) (a.state.marks.map markc) (a.state.answers.map ansc) (a.state.entries.map entryc) (idCells a.state.commits) a.report.core a.report.view.number (intCells a.report.view.members) (intCells a.report.view.owners) (a.report.state.slots.map slotc) (a.report.state.pending.map reqc) (a.report.state.marks.map markc) (a.report.state.answers.map ansc) (a.report.state.entries.map entryc) (idCells a.report.state.commits) a.report.ready a.report.next.number (intCells a.report.next.members) (intCells a.report.next.owners) (a.report.proposal.slots.map slotc) (a.report.proposal.pending.map reqc) (a.report.proposal.marks.map markc) (a.report.proposal.answers.map ansc) (a.report.proposal.entries.map entryc) (idCells a.report.proposal.commits) b.kind b.view b.frm b.to b.round b.region b.slot b.op.core b.op.op b.op.part b.err b.settled b.req.id.core b.req.id.op b.req.id.part b.req.call.kind b.req.call.slot b.req.call.dest b.req.call.core b.req.call.mask b.req.call.object b.req.call.bits b.req.call.level b.req.call.offset b.req.call.count b.req.call.index b.req.call.addr b.req.region b.req.width b.req.src.id.core b.req.src.id.op b.req.src.id.part (idCells b.req.src.path) b.req.src.cap.kind b.req.src.cap.base b.req.src.cap.bits b.req.src.cap.rights b.req.src.cap.width b.req.src.cap.level b.req.src.cap.device (idCells b.ids) (b.nodes.map nodec) (intCells b.cores) (b.moves.map movec) b.base b.next.number (intCells b.next.members) (intCells b.next.owners) (b.state.slots.map slotc) (b.state.pending.map reqc) (b.state.marks.map markc) (b.state.answers.map ansc) (b.state.entries.map entryc) (idCells b.state.commits) b.report.core b.report.view.number (intCells b.report.view.members) (intCells b.report.view.owners) (b.report.state.slots.map slotc) (b.report.state.pending.map reqc) (b.report.state.marks.map markc) (b.report.state.answers.map ansc) (b.report.state.entries.map entryc) (idCells b.report.state.commits) b.report.ready b.report.next.number (intCells b.report.next.members) (intCells b.report.next.owners) (b.report.proposal.slots.map slotc) (b.report.proposal.pending.map reqc) (b.report.proposal.marks.map markc) (b.report.proposal.answers.map ansc) (b.report.proposal.entries.map entryc) (idCells b.report.proposal.commits) = some (sameM a b) := by
  rw [g35_eq, s21 _ _ h.req h'.req, s52 _ _ h.ids h'.ids, s53 _ _ h.nodes h.node h'.node, s54 _ _ h.cores, s55 _ _ h.moves, s56 _ _ h.next, s57 _ _ h.state h'.state, s58 _ _ h.report h'.report]
  exact nif _ (nif _ (nif _ (nif _ (nif _ (nif _ (nif _ (nif _ (nif _ (nif _ (nif _ (and_if _ (and_if _ (and_if _ (and_if _ (and_if _ (and_if _ (and_if _ (rfl))))))))))))))))))

theorem sameL_refl {α : Type} (q : α → α → Bool) (hq : ∀ a, q a a = true) (l : List α) : sameL q l l = true := by
  unfold sameL
  rw [decide_eq_true rfl, Bool.true_and, List.all_eq_true]
  intro i hi
  have hi' : i < l.length := by simpa [List.mem_range'] using hi
  rw [at2_at q hi' hi', hq]

theorem sameL_nil {α : Type} (q : α → α → Bool) (l : List α) : sameL q l [] = decide (l.length = 0) := by
  unfold sameL
  cases l with
  | nil => rfl
  | cons a r => simp

theorem sameN_refl (a : Node) : sameN a a = true := by simp [sameN]

theorem sameR_refl (a : Req) : sameR a a = true := by simp [sameR, sameN_refl]

theorem sameR_zero (a : Req) : sameR a noReq = zReq a := by
  have : decide (a.id.core = noReq.id.core ∧ a.id.op = noReq.id.op ∧ a.id.part = noReq.id.part) = decide (a.id = zid) := by
    rw [bool_iff, decide_eq_true_eq, decide_eq_true_eq]
    constructor
    · rintro ⟨h1, h2, h3⟩
      rcases h : a.id with ⟨x, y, z⟩
      rw [h] at h1 h2 h3
      simp only [noReq, zid] at h1 h2 h3
      subst h1 h2 h3
      rfl
    · intro h; rw [h]; exact ⟨rfl, rfl, rfl⟩
  unfold sameR zReq
  rw [this]
  rfl

theorem sameV_refl (a : View) : sameV a a = true := by
  simp [sameV, sameL_refl sameI (fun a => by simp [sameI]), cop]

theorem sameV_zero (a : View) : sameV a noView = zView a := by
  unfold sameV zView
  rw [show noView.members = [] from rfl, show noView.owners = [] from rfl, sameL_nil, sameL_nil, Bool.and_assoc]
  rfl

theorem sameSt_refl (a : State) : sameSt a a = true := by
  simp [sameSt, sameL_refl sameS (fun a => by simp [sameS, sameN_refl]), sameL_refl sameR sameR_refl, sameL_refl sameMk (fun a => by simp [sameMk]), sameL_refl sameA (fun a => by simp [sameA]), sameL_refl sameE (fun a => by simp [sameE, sameN_refl])]

theorem sameSt_zero (a : State) : sameSt a noState = zState a := by
  have : decide (a.commits = ([] : List Id)) = decide (a.commits.length = 0) := by
    rw [bool_iff, decide_eq_true_eq, decide_eq_true_eq, List.length_eq_zero_iff]
  unfold sameSt zState
  rw [show noState.slots = [] from rfl, show noState.pending = [] from rfl, show noState.marks = [] from rfl, show noState.answers = [] from rfl, show noState.entries = [] from rfl, show noState.commits = [] from rfl, sameL_nil, sameL_nil, sameL_nil, sameL_nil, sameL_nil, this]
  simp only [Bool.and_assoc]

theorem sameRep_refl (a : Report) : sameRep a a = true := by simp [sameRep, sameV_refl, sameSt_refl, cop]

theorem sameRep_zero (a : Report) : sameRep a noReport = zReport a := by
  unfold sameRep zReport
  rw [show noReport.view = noView from rfl, show noReport.next = noView from rfl, show noReport.state = noState from rfl, show noReport.proposal = noState from rfl, sameV_zero, sameV_zero, sameSt_zero, sameSt_zero]
  have e : (a.ready == noReport.ready) = !a.ready := by cases a.ready <;> rfl
  rw [e]
  simp only [Bool.and_assoc]
  rfl

theorem sameM_refl (a : Msg) : sameM a a = true := by
  simp [sameM, sameR_refl, sameL_refl sameN sameN_refl, sameL_refl sameI (fun a => by simp [sameI]), sameL_refl sameMv (fun a => by simp [sameMv]), sameV_refl, sameSt_refl, sameRep_refl, cop]

end Go.Proofs.YtmgfkjonkdfedaaGreat
end

section
namespace Go.Proofs.YtmgfkjonkdfedaaGreat
open Go Go.AM
set_option linter.unusedSimpArgs false
set_option linter.unusedVariables false
set_option maxRecDepth 100000

/-- A loop that collects. -/
theorem collect {α : Type} {F : Nat → LL → Int → Option LL} (l : List α) (f : α → LL) (hn : l.length < 2 ^ 63)
    (step : ∀ (k i : Nat) (hi : i < l.length), F (k + 1) ((l.take i).flatMap f) (i : Int) = F k ((l.take i).flatMap f ++ f l[i]) ((i + 1 : Nat) : Int))
    (last : ∀ (k : Nat) (acc : LL) (i : Nat), l.length ≤ i → F (k + 1) acc (i : Int) = some acc) : F FUEL [] 0 = some (l.flatMap f) := by
  have key : ∀ (j i fuel : Nat), l.length ≤ i + j → j < fuel → F fuel ((l.take i).flatMap f) (i : Int) = some (l.flatMap f) := by
    intro j
    induction j with
    | zero =>
      intro i fuel h hf
      obtain ⟨q, rfl⟩ : ∃ q, fuel = q + 1 := ⟨fuel - 1, by omega⟩
      rw [last q _ i (by omega), List.take_of_length_le (by omega)]
    | succ j ih =>
      intro i fuel h hf
      obtain ⟨q, rfl⟩ : ∃ q, fuel = q + 1 := ⟨fuel - 1, by omega⟩
      by_cases hi : i < l.length
      · have e : (l.take i).flatMap f ++ f l[i] = (l.take (i + 1)).flatMap f := by
          rw [List.take_add_one, List.getElem?_eq_getElem hi, Option.toList_some, List.flatMap_append, List.flatMap_singleton]
        rw [step q i hi, e]
        exact ih (i + 1) q (by omega) (by omega)
      · rw [last q _ i (by omega), List.take_of_length_le (by omega)]
  exact key l.length 0 FUEL (by omega) (by have := fuel63 hn; omega)

theorem flat_one {α : Type} (f : α → List AV) (l : List α) : l.flatMap (fun x => [f x]) = l.map f := by
  induction l with
  | nil => rfl
  | cons a r ih => rw [List.flatMap_cons, ih, List.map_cons]; rfl

theorem flat_le {α : Type} (f : α → LL) (n : Nat) (h : ∀ x, (f x).length ≤ 1) : ∀ (l : List α), l.length ≤ n → (l.flatMap f).length ≤ n
  | [], _ => Nat.zero_le _
  | a :: r, hl => by
    have := flat_le f (n - 1) h r (by simp at hl; omega)
    have := h a
    simp only [List.flatMap_cons, List.length_append]
    simp only [List.length_cons] at hl
    omega

theorem room_small {a b : LL} {k : Nat} (h : a.length + b.length ≤ 4096) (hk : k ≤ 10000) : roomP a b k := by
  unfold roomP roomMax
  have : (a.length + b.length) * (k + 1) ≤ 4096 * 10001 := Nat.mul_le_mul h (by omega)
  omega

theorem s49 (l : List Id) (h : l.length ≤ 64) : g49 (idCells l) = some (idCells l) := by
  rw [g49_eq]
  exact reqK_pos (room_small (by rw [ids_len]; simp; omega) (by omega)) _

theorem s45 (l : List Id) (h : l.length ≤ 64) : g45 (idCells l) = some (idCells l) := by
  rw [g45_eq]
  refine nilK_of (fun hn => ?_) ?_
  · rw [if_pos rfl, hn]
  · rw [if_neg Bool.false_ne_true]
    exact reqK_pos (room_small (by rw [ids_len]; simp; omega) (by omega)) _

theorem s31 (n : Node) (h : n.path.length ≤ 64) : g31 n.id.core n.id.op n.id.part (idCells n.path) n.cap.kind n.cap.base n.cap.bits n.cap.rights n.cap.width n.cap.level n.cap.device = some (nodeV n) := by
  rw [g31_eq, s49 _ h]; rfl

theorem s28 (n : Node) (h : n.path.length ≤ 64) : g28 n.id.core n.id.op n.id.part (idCells n.path) n.cap.kind n.cap.base n.cap.bits n.cap.rights n.cap.width n.cap.level n.cap.device = some (nodeV n) := by
  rw [g28_eq, s45 _ h]; rfl

theorem s11 (r : Req) (h : r.src.path.length ≤ 64) : g11 r.id.core r.id.op r.id.part r.call.kind r.call.slot r.call.dest r.call.core r.call.mask r.call.object r.call.bits r.call.level r.call.offset r.call.count r.call.index r.call.addr r.region r.width r.src.id.core r.src.id.op r.src.id.part (idCells r.src.path) r.src.cap.kind r.src.cap.base r.src.cap.bits r.src.cap.rights r.src.cap.width r.src.cap.level r.src.cap.device = some (reqV r) := by
  rw [g11_eq, s31 _ h]; rfl

/-- Few and short requests. -/
structure Few (p : List Req) : Prop where
  len : p.length ≤ 30
  path : ∀ r ∈ p, r.src.path.length ≤ 20

theorem s10 (p : List Req) (h : Few p) : g10 (p.map reqc) = some (p.map reqc) := by
  rw [g10_eq]
  have hn : p.length < 2 ^ 63 := by have := h.len; omega
  refine (collect (F := fun k acc i => g10L0 k (p.map reqc) acc i) p (fun r => [reqc r]) hn (fun k i hi => ?_) (fun k acc i hi => ?_)).trans (by rw [flat_one])
  · show g10L0 (k + 1) _ _ _ = _
    rw [g10L0_eq, List.length_map, if_pos (lss_t hi)]
    refine (elem_reqs hi _).trans ?_
    simp only [reqV, d2, d4, d8, d16]
    have hp := h.path p[i] (List.getElem_mem hi)
    rw [s11 p[i] (by omega), Option.bind_some]
    refine (reqK_pos (room_small ?_ (by omega)) _).trans ?_
    · rw [flat_one]
      have := h.len
      simp only [List.length_map, List.length_take, List.length_append, List.length_cons, List.length_nil]
      omega
    · rw [inc_i hi hn]
      rfl
  · show g10L0 (k + 1) _ _ _ = _
    rw [g10L0_eq, List.length_map, if_neg (lss_f hi)]

/-! messages as cells -/
def viewc (v : View) : List AV := [I v.number, .slice false 1 (intCells v.members), .slice false 1 (intCells v.owners)]
def reportc (r : Report) : List AV := [I r.core] ++ viewc r.view ++ statec r.state ++ [B r.ready] ++ viewc r.next ++ statec r.proposal
def msgc (m : Msg) : List AV := [I m.kind, I m.view, I m.frm, I m.to, I m.round, I m.region, I m.slot, I m.op.core, I m.op.op, I m.op.part, I m.err, B m.settled] ++ reqc m.req ++ [.slice false 3 (idCells m.ids), .slice false 11 (m.nodes.map nodec), .slice false 1 (intCells m.cores), .slice false 2 (m.moves.map movec), I m.base] ++ viewc m.next ++ statec m.state ++ reportc m.report

theorem elem_msgs {γ : Type} {l : List Msg} {i : Nat} (h : i < l.length) (k : Qt2 → Option γ) : elemK (l.map msgc) (i : Int) hs0 k = k (msgT l[i]) := elem_map (f := msgc) (sh := hs0) (v := msgT) (fun _ => rfl) h k

theorem s15 (l : List Msg) (hl : l.length < 2 ^ 63) (hf : ∀ m ∈ l, m.Fits) : g15 (l.map msgc) (l.map msgc) = some true := by
  rw [g15_eq, if_neg (by simp [cop])]
  have := scan_all (F := fun k i => g15L0 k (l.map msgc) (l.map msgc) i) (n := l.length) (fin := some true) (bad := some false) (fun _ => true) hl 0 (by omega)
    (fun k i _ hi => by
      show g15L0 (k + 1) _ _ _ = _
      rw [g15L0_eq, List.length_map, if_pos (lss_t hi)]
      refine (elem_msgs hi _).trans ?_
      refine (elem_msgs hi _).trans ?_
      simp only [msgT, d2, d4, d8, d16]
      have hm := hf l[i] (List.getElem_mem hi)
      rw [s35 l[i] l[i] hm hm, Option.bind_some, sameM_refl, inc_i hi hl]
      rfl)
    (fun k i hi => by show g15L0 (k + 1) _ _ _ = _; rw [g15L0_eq, List.length_map, if_neg (lss_f hi)])
  refine this.trans ?_
  rw [if_pos (by simp)]

/-- The message that sends a request. -/
def reqM (vo : List Int) (r : Req) : Msg := ⟨1, 0, 0, vo.getD r.region.toNat 0, 0, r.region, 0, zid, 0, false, r, [], [], [], [], 0, noView, noState, noReport⟩

def sendB (vo : List Int) (r : Req) : Bool := decide (0 ≤ r.region ∧ r.region < vo.length)

def sendF (vo : List Int) (r : Req) : LL := if sendB vo r = true then [msgc (reqM vo r)] else []

theorem sendF_le (vo : List Int) (r : Req) : (sendF vo r).length ≤ 1 := by unfold sendF; split <;> simp

theorem send_msgs (vo : List Int) : ∀ (p : List Req), p.flatMap (sendF vo) = ((p.filter (sendB vo)).map (reqM vo)).map msgc
  | [] => rfl
  | r :: p => by
    rw [List.flatMap_cons, send_msgs vo p, List.filter_cons, sendF]
    split <;> rfl

theorem owner_at {γ : Type} {vo : List Int} {z : Int} (h0 : 0 ≤ z) (h : z < vo.length) (k : Int → Option γ) : elemK (intCells vo) z [.int .i64] k = k (vo.getD z.toNat 0) := by
  have hz : z = ((z.toNat : Nat) : Int) := by omega
  have hlt : z.toNat < vo.length := by omega
  rw [hz, elem_ints hlt, ← hz]
  congr 1
  rw [List.getD_eq_getElem?_getD, List.getElem?_eq_getElem hlt]
  rfl

theorem s16 (p : List Req) (h : Few p) (n : Int) (vm vo : List Int) : g16 (p.map reqc) n (intCells vm) (intCells vo) = some (p.flatMap (sendF vo)) := by
  rw [g16_eq]
  have hn : p.length < 2 ^ 63 := by have := h.len; omega
  rw [List.length_map]
  refine collect (F := fun k acc i => g16L0 k n (intCells vm) (intCells vo) acc (p.map reqc) (p.length : Int) i) p (sendF vo) hn (fun k i hi => ?_) (fun k acc i hi => ?_)
  · show g16L0 (k + 1) _ _ _ _ _ _ _ = _
    rw [g16L0_eq, if_pos (lss_t hi)]
    refine (elem_reqs hi _).trans ?_
    simp only [reqV, d2, d4, d8, d16]
    have hp := h.path p[i] (List.getElem_mem hi)
    rw [inc_i hi hn]
    by_cases h0 : p[i].region < 0
    · refine (if_pos (by simp only [CQ]; exact h0)).trans ?_
      rw [sendF, if_neg (by simp [sendB]; omega), List.append_nil]
    · refine (if_neg (by simp only [CQ]; omega)).trans ?_
      have hio : (intCells vo).length = vo.length := by simp [intCells]
      by_cases h1 : p[i].region < vo.length
      · refine (if_neg (by simp only [CQ]; rw [hio]; omega)).trans ?_
        rw [s28 p[i].src (by omega), Option.bind_some]
        refine (owner_at (by omega) h1 _).trans ?_
        refine (reqK_pos (room_small ?_ (by omega)) _).trans ?_
        · have h2 := flat_le (sendF vo) (p.take i).length (sendF_le vo) (p.take i) (Nat.le_refl _)
          have := h.len
          simp only [List.length_take, List.length_append, List.length_cons, List.length_nil] at h2 ⊢
          omega
        · rw [sendF, if_pos (by simp [sendB]; omega)]
          rfl
      · refine (if_pos (by simp only [CQ]; rw [hio]; omega)).trans ?_
        rw [sendF, if_neg (by simp [sendB]; omega), List.append_nil]
  · show g16L0 (k + 1) _ _ _ _ _ _ _ = _
    rw [g16L0_eq, if_neg (lss_f hi)]

theorem s17 (p : List Req) (h : Few p) (n : Int) (vm vo : List Int) : g17 (p.map reqc) n (intCells vm) (intCells vo) = some (p.flatMap (sendF vo)) := by
  rw [g17_eq]
  have hn : p.length < 2 ^ 63 := by have := h.len; omega
  refine collect (F := fun k acc i => g17L0 k (p.map reqc) n (intCells vm) (intCells vo) acc i) p (sendF vo) hn (fun k i hi => ?_) (fun k acc i hi => ?_)
  · show g17L0 (k + 1) _ _ _ _ _ _ = _
    rw [g17L0_eq, List.length_map, if_pos (lss_t hi)]
    refine (elem_reqs hi _).trans ?_
    simp only [reqV, d2, d4, d8, d16]
    have hp := h.path p[i] (List.getElem_mem hi)
    rw [inc_i hi hn]
    have hio : (intCells vo).length = vo.length := by simp [intCells]
    by_cases h0 : p[i].region < 0
    · refine (if_neg (by simp only [CQ]; omega)).trans ?_
      rw [sendF, if_neg (by simp [sendB]; omega), List.append_nil]
    · refine (if_pos (by simp only [CQ]; omega)).trans ?_
      by_cases h1 : p[i].region < vo.length
      · refine (if_pos (by simp only [CQ]; rw [hio]; omega)).trans ?_
        refine (owner_at (by omega) h1 _).trans ?_
        rw [s11 p[i] (by omega), Option.bind_some]
        refine (reqK_pos (room_small ?_ (by omega)) _).trans ?_
        · have h2 := flat_le (sendF vo) (p.take i).length (sendF_le vo) (p.take i) (Nat.le_refl _)
          have := h.len
          simp only [List.length_take, List.length_append, List.length_cons, List.length_nil] at h2 ⊢
          omega
        · rw [sendF, if_pos (by simp [sendB]; omega)]
          rfl
      · refine (if_neg (by simp only [CQ]; rw [hio]; omega)).trans ?_
        rw [sendF, if_neg (by simp [sendB]; omega), List.append_nil]
  · show g17L0 (k + 1) _ _ _ _ _ _ = _
    rw [g17L0_eq, List.length_map, if_neg (lss_f hi)]

/-! few -/
structure FewS (l : List Slot) : Prop where
  len : l.length ≤ 70
  path : ∀ s ∈ l, s.node.path.length ≤ 20

theorem l6a (l : List Slot) (p : List Req) (hn : p.length < 2 ^ 63) : ∃ b, g6L0 FUEL (l.map slotc) (p.map reqc) 0 = some b ∧ (b = true → l.length ≤ 70 ∧ Few p) := by
  have key : ∀ (j i fuel : Nat), p.length ≤ i + j → j < fuel → (∀ m (hm : m < p.length), m < i → p[m].src.path.length ≤ 20) → ∃ b, g6L0 fuel (l.map slotc) (p.map reqc) (i : Int) = some b ∧ (b = true → l.length ≤ 70 ∧ Few p) := by
    have out : ∀ i : Nat, (p.length ≤ i ∨ 40 ≤ i) → (∀ m (hm : m < p.length), m < i → p[m].src.path.length ≤ 20) →
        ∃ b, (if (cop .leq (List.length (l.map slotc) : Int) 70) = true then some (cop .leq (List.length (p.map reqc) : Int) 30) else some false) = some b ∧ (b = true → l.length ≤ 70 ∧ Few p) := by
      intro i hi hpre
      split
      · rename_i h1
        refine ⟨_, rfl, fun h2 => ?_⟩
        simp only [CQ, List.length_map] at h1 h2
        refine ⟨by omega, by omega, fun r hr => ?_⟩
        obtain ⟨m, hm, rfl⟩ := List.getElem_of_mem hr
        exact hpre m hm (by omega)
      · exact ⟨_, rfl, fun h => by cases h⟩
    intro j
    induction j with
    | zero =>
      intro i fuel h hf hpre
      obtain ⟨q, rfl⟩ : ∃ q, fuel = q + 1 := ⟨fuel - 1, by omega⟩
      rw [g6L0_eq, if_neg (by rw [List.length_map]; exact lss_f (by omega))]
      exact out i (.inl (by omega)) hpre
    | succ j ih =>
      intro i fuel h hf hpre
      obtain ⟨q, rfl⟩ : ∃ q, fuel = q + 1 := ⟨fuel - 1, by omega⟩
      rw [g6L0_eq]
      by_cases hi : i < p.length
      · rw [if_pos (by rw [List.length_map]; exact lss_t hi)]
        by_cases h40 : i < 40
        · rw [if_pos (by simp only [CQ]; omega)]
          have e := elem_reqs hi (γ := Bool) fun r3 => if (cop .gtr (List.length (d4 (d16 r3)).1 : Int) 20) = true then some (false) else g6L0 q (l.map slotc) (p.map reqc) (iop .add .i64 (i : Int) 1)
          rw [show (elemK (p.map reqc) (i : Int) hs3 fun (r3 : Qt7) => if (cop .gtr (List.length (d4 (d16 r3)).1 : Int) 20) = true then some (false) else g6L0 q (l.map slotc) (p.map reqc) (iop .add .i64 (i : Int) 1)) = _ from e]
          simp only [reqV, d4, d16, inc_i hi hn, ids_len]
          split
          · exact ⟨_, rfl, fun h => by cases h⟩
          · rename_i h2
            simp only [CQ] at h2
            exact ih (i + 1) q (by omega) (by omega) fun m hm hmi => by
              by_cases hmi' : m = i
              · subst hmi'; omega
              · exact hpre m hm (by omega)
        · rw [if_neg (by simp only [CQ]; omega)]
          exact out i (.inr (by omega)) hpre
      · rw [if_neg (by rw [List.length_map]; exact lss_f (by omega))]
        exact out i (.inl (by omega)) hpre
  exact key p.length 0 FUEL (by omega) (by have := fuel63 hn; omega) (fun m _ h => by omega)

theorem s6 (l : List Slot) (p : List Req) (hl : l.length < 2 ^ 63) (hn : p.length < 2 ^ 63) : ∃ b, g6 (l.map slotc) (p.map reqc) = some b ∧ (b = true → FewS l ∧ Few p) := by
  rw [g6_eq]
  have key : ∀ (j i fuel : Nat), l.length ≤ i + j → j < fuel → (∀ m (hm : m < l.length), m < i → l[m].node.path.length ≤ 20) → ∃ b, g6L1 fuel (l.map slotc) (p.map reqc) (i : Int) = some b ∧ (b = true → FewS l ∧ Few p) := by
    have out : ∀ i : Nat, (l.length ≤ i ∨ 80 ≤ i) → (∀ m (hm : m < l.length), m < i → l[m].node.path.length ≤ 20) →
        ∃ b, g6L0 FUEL (l.map slotc) (p.map reqc) 0 = some b ∧ (b = true → FewS l ∧ Few p) := by
      intro i hi hpre
      obtain ⟨b, h1, h2⟩ := l6a l p hn
      refine ⟨b, h1, fun hb => ⟨⟨(h2 hb).1, fun r hr => ?_⟩, (h2 hb).2⟩⟩
      obtain ⟨m, hm, rfl⟩ := List.getElem_of_mem hr
      exact hpre m hm (by have := (h2 hb).1; omega)
    intro j
    induction j with
    | zero =>
      intro i fuel h hf hpre
      obtain ⟨q, rfl⟩ : ∃ q, fuel = q + 1 := ⟨fuel - 1, by omega⟩
      rw [g6L1_eq, if_neg (by rw [List.length_map]; exact lss_f (by omega))]
      exact out i (.inl (by omega)) hpre
    | succ j ih =>
      intro i fuel h hf hpre
      obtain ⟨q, rfl⟩ : ∃ q, fuel = q + 1 := ⟨fuel - 1, by omega⟩
      rw [g6L1_eq]
      by_cases hi : i < l.length
      · rw [if_pos (by rw [List.length_map]; exact lss_t hi)]
        by_cases h40 : i < 80
        · rw [if_pos (by simp only [CQ]; omega)]
          have e := elem_slots hi (γ := Bool) fun r3 => if (cop .gtr (List.length r3.2.2.2.1 : Int) 20) = true then some (false) else g6L1 q (l.map slotc) (p.map reqc) (iop .add .i64 (i : Int) 1)
          rw [show (elemK (l.map slotc) (i : Int) hs8 fun (r3 : Qt11) => if (cop .gtr (List.length r3.2.2.2.1 : Int) 20) = true then some (false) else g6L1 q (l.map slotc) (p.map reqc) (iop .add .i64 (i : Int) 1)) = _ from e]
          simp only [slotV, inc_i hi hl, ids_len]
          split
          · exact ⟨_, rfl, fun h => by cases h⟩
          · rename_i h2
            simp only [CQ] at h2
            exact ih (i + 1) q (by omega) (by omega) fun m hm hmi => by
              by_cases hmi' : m = i
              · subst hmi'; omega
              · exact hpre m hm (by omega)
        · rw [if_neg (by simp only [CQ]; omega)]
          exact out i (.inr (by omega)) hpre
      · rw [if_neg (by rw [List.length_map]; exact lss_f (by omega))]
        exact out i (.inl (by omega)) hpre
  exact key l.length 0 FUEL (by omega) (by have := fuel63 hl; omega) (fun m _ h => by omega)

end Go.Proofs.YtmgfkjonkdfedaaGreat
end

section
namespace Go.Proofs.YtmgfkjonkdfedaaGreat
open Go Go.AM
set_option linter.unusedSimpArgs false
set_option linter.unusedVariables false
set_option maxRecDepth 100000

theorem s7 : g7 = some true := by kernel_rfl

theorem ty_ints {d : Nat} {cs : List AV} (h : TyR Tryz.prog (d + 2) 35 cs) : ∃ l, cs = [.slice false 1 (intCells l)] ∧ l.length ≤ maxLen := by
  rw [TyR] at h
  simp only [Tryz.underlying35, cells3] at h
  obtain ⟨xs, h1, h2, h3⟩ := h
  obtain ⟨l, rfl, h5⟩ := list_lift (f := i64c) (p := fun _ => True) xs fun y hy => by
    obtain ⟨z, hz⟩ := ty_int (h3 y hy)
    exact ⟨z, hz, trivial⟩
  exact ⟨l, by simpa [intCells] using h1, by simpa using h2⟩

theorem arg_view {x : AV} (h : ArgTy Tryz.prog 12 48 x) : ∃ v : View, x = .agg (viewc v) ∧ v.Fits := by
  simp only [ArgTy, Tryz.underlying48] at h
  obtain ⟨cs, rfl, h⟩ := h
  rw [TyR] at h
  simp only [Tryz.underlying48] at h
  obtain ⟨ps, rfl, hl, hp⟩ := h
  obtain ⟨p0, p1, p2, rfl⟩ : ∃ p0 p1 p2, ps = [p0, p1, p2] := by
    match ps, hl with
    | [p0, p1, p2], _ => exact ⟨p0, p1, p2, rfl⟩
  obtain ⟨n, rfl⟩ := ty_int (hp 0 _ _ rfl rfl)
  obtain ⟨m, rfl, hm⟩ := ty_ints (hp 1 _ _ rfl rfl)
  obtain ⟨o, rfl, ho⟩ := ty_ints (hp 2 _ _ rfl rfl)
  exact ⟨⟨n, m, o⟩, rfl, le63 hm, le63 ho⟩

theorem arg_slots {x : AV} (h : ArgTy Tryz.prog 12 22 x) : ∃ l : List Slot, x = .slice false 15 (l.map slotc) ∧ l.length < 2 ^ 63 ∧ ∀ s ∈ l, s.node.path.length < 2 ^ 63 := by
  simp only [ArgTy, Tryz.underlying22] at h
  obtain ⟨l, h1, h2, h3⟩ := ty_slots h.2
  exact ⟨l, by simpa using h1, h2, h3⟩

theorem arg_reqs {x : AV} (h : ArgTy Tryz.prog 12 23 x) : ∃ l : List Req, x = .slice false 28 (l.map reqc) ∧ l.length < 2 ^ 63 ∧ ∀ r ∈ l, r.src.path.length < 2 ^ 63 := by
  simp only [ArgTy, Tryz.underlying23] at h
  obtain ⟨l, h1, h2, h3⟩ := ty_reqs h.2
  exact ⟨l, by simpa using h1, h2, h3⟩

theorem gtr_or (n : Nat) (m : Int) : cop .gtr (n : Int) m = true ∨ ¬ cop .gtr (n : Int) m = true := by cases cop .gtr (n : Int) m <;> simp

theorem s4 (p : List Req) (hn : p.length < 2 ^ 63) (hp : ∀ r ∈ p, r.src.path.length < 2 ^ 63) (v : View) (hv : v.Fits) : g4 (p.map reqc) v.number (intCells v.members) (intCells v.owners) = some true := by
  rw [g4_eq]
  obtain ⟨b, h1, h2⟩ := s6 [] p (by simp) hn
  have h1' : g6 ([] : LL) (p.map reqc) = some b := h1
  rw [h1', Option.bind_some]
  refine ite_goal (fun _ => by rw [s7]; rfl) fun hb => ?_
  have hb' : b = true := by cases b <;> simp_all
  have hf := (h2 hb').2
  refine ite_goal (fun _ => by rw [s7]; rfl) fun _ => ?_
  refine ite_goal (fun _ => by rw [s7]; rfl) fun _ => ?_
  rw [s10 p hf, Option.bind_some, s16 p hf, Option.bind_some, s17 p hf, Option.bind_some, send_msgs, s15 _ ?_ ?_, Option.bind_some]
  · refine (if_pos rfl).trans ?_
    rw [s7]; rfl
  · have := List.length_filter_le (sendB v.owners) p
    rw [List.length_map]
    omega
  · intro m hm
    obtain ⟨r, hr, rfl⟩ := List.mem_map.1 hm
    have hr' := (List.mem_filter.1 hr).1
    exact ⟨hp r hr', by simp [reqM], by simp [reqM], by simp [reqM], by simp [reqM], by simp [reqM], ⟨by simp [reqM, noView], by simp [reqM, noView]⟩, ⟨by simp [reqM, noState], by simp [reqM, noState], by simp [reqM, noState], by simp [reqM, noState], by simp [reqM, noState], by simp [reqM, noState], by simp [reqM, noState], by simp [reqM, noState], by simp [reqM, noState]⟩, ⟨⟨by simp [reqM, noReport, noView], by simp [reqM, noReport, noView]⟩, ⟨by simp [reqM, noReport, noState], by simp [reqM, noReport, noState], by simp [reqM, noReport, noState], by simp [reqM, noReport, noState], by simp [reqM, noReport, noState], by simp [reqM, noReport, noState], by simp [reqM, noReport, noState], by simp [reqM, noReport, noState], by simp [reqM, noReport, noState]⟩, ⟨by simp [reqM, noReport, noView], by simp [reqM, noReport, noView]⟩, ⟨by simp [reqM, noReport, noState], by simp [reqM, noReport, noState], by simp [reqM, noReport, noState], by simp [reqM, noReport, noState], by simp [reqM, noReport, noState], by simp [reqM, noReport, noState], by simp [reqM, noReport, noState], by simp [reqM, noReport, noState], by simp [reqM, noReport, noState]⟩⟩⟩

end Go.Proofs.YtmgfkjonkdfedaaGreat
end

section
namespace Go.Proofs.YtmgfkjonkdfedaaGreat
open Go Go.AM
set_option linter.unusedSimpArgs false
set_option linter.unusedVariables false
set_option maxRecDepth 100000

theorem set_cells {α : Type} (f : α → List AV) (g : α → α) (l : List α) (i o : Nat) (c : List AV) (h : ∀ x, l[i]? = some x → setCells (f x) o c = f (g x)) : setElem (l.map f) i o c = (l.modify i g).map f := by
  unfold setElem
  refine List.ext_getElem? fun j => ?_
  rw [List.getElem?_modify, List.getElem?_map, List.getElem?_map, List.getElem?_modify]
  cases hj : l[j]? with
  | none => rfl
  | some x =>
    by_cases hij : i = j
    · subst hij
      simp [h x hj]
    · simp [hij]

theorem modify_id {α : Type} (l : List α) (i : Nat) : l.modify i (fun x => x) = l := by
  refine List.ext_getElem? fun j => ?_
  rw [List.getElem?_modify]
  cases l[j]? <;> simp

/-- The same cells, written again. -/
theorem set_same {α : Type} (f : α → List AV) (l : List α) (i o : Nat) (c : List AV) (h : ∀ x, l[i]? = some x → setCells (f x) o c = f x) : setElem (l.map f) i o c = l.map f := by
  rw [set_cells f (fun x => x) l i o c h, modify_id]

theorem nat_lt {i n : Nat} (h : i < n) : ((i : Int) < (n : Int)) := by omega

theorem s9 (l : List Slot) (h : FewS l) : g9 (l.map slotc) = some (l.map slotc) := by
  rw [g9_eq]
  have hn : l.length < 2 ^ 63 := by have := h.len; omega
  refine (collect (F := fun k acc i => g9L0 k (l.map slotc) acc i) l (fun r => [slotc r]) hn (fun k i hi => ?_) (fun k acc i hi => ?_)).trans (by rw [flat_one])
  · show g9L0 (k + 1) _ _ _ = _
    rw [g9L0_eq, List.length_map, if_pos (lss_t hi)]
    refine (elem_slots hi _).trans ?_
    simp only [slotV, d2, d4, d8, d16]
    have hp := h.path l[i] (List.getElem_mem hi)
    rw [s31 l[i].node (by omega), Option.bind_some]
    refine (elem_slots hi _).trans ?_
    refine (elem_slots hi _).trans ?_
    refine (reqK_pos (room_small ?_ (by omega)) _).trans ?_
    · rw [flat_one]
      have := h.len
      simp only [List.length_map, List.length_take, List.length_append, List.length_cons, List.length_nil]
      omega
    · rw [inc_i hi hn]
      rfl
  · show g9L0 (k + 1) _ _ _ = _
    rw [g9L0_eq, List.length_map, if_neg (lss_f hi)]

theorem s59 (l : List Slot) (h : FewS l) : g59 (l.map slotc) = some (l.map slotc) := by
  rw [g59_eq]
  refine nilK_of (fun hn => ?_) ?_
  · rw [if_pos rfl, hn]
  · rw [if_neg Bool.false_ne_true]
    refine reqK_pos (room_small (by have := h.len; simp; omega) (by omega)) _

theorem s36 (l : List Slot) (h : FewS l) : g36 (l.map slotc) = some (l.map slotc) := by
  rw [g36_eq, s59 l h, Option.bind_some, List.length_map]
  have hn : l.length < 2 ^ 63 := by have := h.len; omega
  have := scan_all (F := fun k i => g36L0 k (l.map slotc) (l.length : Int) i) (n := l.length) (fin := some (l.map slotc)) (bad := none) (fun _ => true) hn 0 (by omega)
    (fun k i _ hi => by
      show g36L0 (k + 1) _ _ _ = _
      rw [g36L0_eq, if_pos (lss_t hi), List.length_map]
      have hin := nat_lt hi
      refine (reqK_pos (by omega) _).trans ?_
      refine (reqK_pos hin _).trans ?_
      refine (elem_slots hi _).trans ?_
      simp only [slotV, d2, d4, d8, d16]
      have hp := h.path l[i] (List.getElem_mem hi)
      rw [s28 l[i].node (by omega), Option.bind_some]
      refine (reqK_pos (by omega) _).trans ?_
      refine (reqK_pos hin _).trans ?_
      refine (reqK_pos (by omega) _).trans ?_
      refine (reqK_pos hin _).trans ?_
      rw [inc_i hi hn]
      refine Eq.trans ?_ (if_pos trivial).symm
      refine congrArg (fun x => g36L0 k x (l.length : Int) ((i + 1 : Nat) : Int)) ?_
      refine set_same slotc l _ 0 (nodec l[i].node) fun x hx => ?_
      have hx' : l[i] = x := by
        rw [Int.toNat_natCast, List.getElem?_eq_getElem hi] at hx
        exact Option.some.inj hx
      rw [hx']
      rfl)
    (fun k i hi => by show g36L0 (k + 1) _ _ _ = _; rw [g36L0_eq, if_neg (lss_f hi)])
  refine this.trans ?_
  rw [if_pos (by simp)]

theorem s48 (p : List Req) (h : Few p) : g48 (p.map reqc) = some (p.map reqc) := by
  rw [g48_eq]
  refine nilK_of (fun hn => ?_) ?_
  · rw [if_pos rfl, hn]
  · rw [if_neg Bool.false_ne_true]
    refine reqK_pos (room_small (by have := h.len; simp; omega) (by omega)) _

theorem s30 (p : List Req) (h : Few p) : g30 (p.map reqc) = some (p.map reqc) := by
  rw [g30_eq, s48 p h, Option.bind_some, List.length_map]
  have hn : p.length < 2 ^ 63 := by have := h.len; omega
  have := scan_all (F := fun k i => g30L0 k (p.map reqc) (p.length : Int) i) (n := p.length) (fin := some (p.map reqc)) (bad := none) (fun _ => true) hn 0 (by omega)
    (fun k i _ hi => by
      show g30L0 (k + 1) _ _ _ = _
      rw [g30L0_eq, if_pos (lss_t hi), List.length_map]
      have hin := nat_lt hi
      refine (reqK_pos (by omega) _).trans ?_
      refine (reqK_pos hin _).trans ?_
      refine (elem_reqs hi _).trans ?_
      simp only [reqV, d2, d4, d8, d16]
      have hp := h.path p[i] (List.getElem_mem hi)
      rw [s28 p[i].src (by omega), Option.bind_some]
      refine (reqK_pos (by omega) _).trans ?_
      refine (reqK_pos hin _).trans ?_
      refine (reqK_pos (by omega) _).trans ?_
      refine (reqK_pos hin _).trans ?_
      rw [inc_i hi hn]
      refine Eq.trans ?_ (if_pos trivial).symm
      refine congrArg (fun x => g30L0 k x (p.length : Int) ((i + 1 : Nat) : Int)) ?_
      refine set_same reqc p _ 17 (nodec p[i].src) fun x hx => ?_
      have hx' : p[i] = x := by
        rw [Int.toNat_natCast, List.getElem?_eq_getElem hi] at hx
        exact Option.some.inj hx
      rw [hx']
      rfl)
    (fun k i hi => by show g30L0 (k + 1) _ _ _ = _; rw [g30L0_eq, if_neg (lss_f hi)])
  refine this.trans ?_
  rw [if_pos (by simp)]

/-! Reserve -/
def busyS (s : Slot) : Bool := if (cop .neq s.op 0) = true then true else !((cop .eql s.lock.core 0) && ((cop .eql s.lock.op 0) && ((cop .eql s.lock.part 0) && true)))

theorem s43 (s : Slot) : g43 s.node.id.core s.node.id.op s.node.id.part (idCells s.node.path) s.node.cap.kind s.node.cap.base s.node.cap.bits s.node.cap.rights s.node.cap.width s.node.cap.level s.node.cap.device s.op s.lock.core s.lock.op s.lock.part = some (busyS s) := by
  rw [g43_eq, busyS]
  split <;> rfl

theorem s51 (s : Slot) : g51 s.node.id.core s.node.id.op s.node.id.part (idCells s.node.path) s.node.cap.kind s.node.cap.base s.node.cap.bits s.node.cap.rights s.node.cap.width s.node.cap.level s.node.cap.device s.op s.lock.core s.lock.op s.lock.part = some (busyS s) := by
  rw [g51_eq, busyS]
  split <;> rfl

def setOp (op : Int) (s : Slot) : Slot := { s with op := op }

/-- The slots reserved one after the other; none: one is busy. -/
def rsv (l : List Slot) (op : Int) : List Int → List Slot → Option (List Slot)
  | [], acc => some acc
  | z :: zs, acc => match l[z.toNat]? with | some s => (match busyS s with | true => none | false => rsv l op zs (acc.modify z.toNat (setOp op))) | none => none

def okAt (n : Nat) (z : List Int) (i : Nat) : Bool := match z[i]? with | some v => decide (0 ≤ v) && (decide (v < n) && !((z.take i).any fun x => decide (v = x))) | none => true

def rsv2 (l : List Slot) (op : Int) (z : List Int) : List Slot × Int := match rsv l op z l with | some a => (a, 0) | none => ([], 4)

def reserve (l : List Slot) (z : List Int) (op : Int) : List Slot × Int :=
  if op < 1 ∨ 1073741824 < op then ([], 1) else if (List.range' 0 z.length).all (okAt l.length z) = true then rsv2 l op z else ([], 1)

def resc (r : List Slot × Int) : LL × Int := (r.1.map slotc, r.2)

theorem loop2 {F : Nat → LL → Int → Option (LL × Int)} (l : List Slot) (op : Int) (z : List Int) (hn : z.length < 2 ^ 63) (hz : ∀ v ∈ z, 0 ≤ v ∧ v < l.length)
    (step : ∀ (k i : Nat) (acc : List Slot) (hi : i < z.length) (hv : z[i].toNat < l.length), acc.length = l.length → F (k + 1) (acc.map slotc) (i : Int) = if busyS l[z[i].toNat] = true then some ([], 4) else F k ((acc.modify z[i].toNat (setOp op)).map slotc) ((i + 1 : Nat) : Int))
    (last : ∀ (k i : Nat) (acc : List Slot), z.length ≤ i → F (k + 1) (acc.map slotc) (i : Int) = some (acc.map slotc, 0)) : F FUEL (l.map slotc) 0 = some (resc (rsv2 l op z)) := by
  have key : ∀ (j i fuel : Nat) (acc : List Slot), z.length ≤ i + j → j < fuel → acc.length = l.length →
      F fuel (acc.map slotc) (i : Int) = some (resc (match rsv l op (z.drop i) acc with | some a => (a, 0) | none => ([], 4))) := by
    intro j
    induction j with
    | zero =>
      intro i fuel acc h hf ha
      obtain ⟨q, rfl⟩ : ∃ q, fuel = q + 1 := ⟨fuel - 1, by omega⟩
      rw [last q i acc (by omega), List.drop_of_length_le (by omega)]
      rfl
    | succ j ih =>
      intro i fuel acc h hf ha
      obtain ⟨q, rfl⟩ : ∃ q, fuel = q + 1 := ⟨fuel - 1, by omega⟩
      by_cases hi : i < z.length
      · have hv := hz z[i] (List.getElem_mem hi)
        have hv' : z[i].toNat < l.length := by omega
        rw [step q i acc hi hv' ha, List.drop_eq_getElem_cons hi, rsv, List.getElem?_eq_getElem hv']
        dsimp only
        cases hb : busyS l[z[i].toNat] with
        | true => rfl
        | false =>
          rw [if_neg Bool.false_ne_true]
          exact ih (i + 1) q _ (by omega) (by omega) (by rw [List.length_modify]; exact ha)
      · rw [last q i acc (by omega), List.drop_of_length_le (by omega)]
        rfl
  exact key z.length 0 FUEL l (by omega) (by have := fuel63 hn; omega) rfl

theorem ok_range {n : Nat} {z : List Int} (h : (List.range' 0 z.length).all (okAt n z) = true) : ∀ v ∈ z, 0 ≤ v ∧ v < n := by
  intro v hv
  obtain ⟨i, hi, rfl⟩ := List.getElem_of_mem hv
  rw [List.all_eq_true] at h
  have := h i (by simp [List.mem_range', hi])
  simp only [okAt, List.getElem?_eq_getElem hi, Bool.and_eq_true, decide_eq_true_eq] at this
  exact ⟨this.1, this.2.1⟩

theorem elem_slot_at {γ : Type} {l : List Slot} {v : Int} (h0 : 0 ≤ v) (h : v.toNat < l.length) (k : ShsT slotSh → Option γ) : elemK (l.map slotc) v slotSh k = k (slotV l[v.toNat]) := by
  have e : v = ((v.toNat : Nat) : Int) := by omega
  have := elem_slots h k
  rwa [← e] at this

theorem set_op (acc : List Slot) (i : Nat) (op : Int) : setElem (acc.map slotc) i 11 [AV.val (.int .i64 op)] = (acc.modify i (setOp op)).map slotc := set_cells slotc (setOp op) acc i 11 _ fun _ _ => rfl

theorem l24 (l : List Slot) (op : Int) (z : List Int) (hn : z.length < 2 ^ 63) (hz : ∀ v ∈ z, 0 ≤ v ∧ v < l.length) : g24L0 FUEL (l.map slotc) op (l.map slotc) (intCells z) (z.length : Int) 0 = some (resc (rsv2 l op z)) := by
  refine loop2 (F := fun k acc i => g24L0 k (l.map slotc) op acc (intCells z) (z.length : Int) i) l op z hn hz (fun k i acc hi hv ha => ?_) (fun k i acc hi => ?_)
  · show g24L0 (k + 1) _ _ _ _ _ _ = _
    have h0 := (hz z[i] (List.getElem_mem hi)).1
    rw [g24L0_eq, if_pos (lss_t hi)]
    refine (elem_ints hi _).trans ?_
    refine (elem_slot_at h0 hv _).trans ?_
    simp only [slotV, d2, d4, d8, d16]
    rw [s43, Option.bind_some]
    refine ite_goal (fun h => ?_) fun h => ?_
    · rw [if_pos h]
    · rw [if_neg h]
      have hlt : z[i] < ((acc.map slotc).length : Int) := by rw [List.length_map, ha]; omega
      refine (reqK_pos h0 _).trans ?_
      refine (reqK_pos hlt _).trans ?_
      refine (reqK_pos h0 _).trans ?_
      refine (reqK_pos hlt _).trans ?_
      rw [inc_i hi hn, set_op]
  · show g24L0 (k + 1) _ _ _ _ _ _ = _
    rw [g24L0_eq, if_neg (lss_f hi)]

theorem l32 (l : List Slot) (op : Int) (z : List Int) (hn : z.length < 2 ^ 63) (hz : ∀ v ∈ z, 0 ≤ v ∧ v < l.length) : g32L0 FUEL (l.map slotc) (intCells z) op (l.map slotc) 0 = some (resc (rsv2 l op z)) := by
  refine loop2 (F := fun k acc i => g32L0 k (l.map slotc) (intCells z) op acc i) l op z hn hz (fun k i acc hi hv ha => ?_) (fun k i acc hi => ?_)
  · show g32L0 (k + 1) _ _ _ _ _ = _
    have h0 := (hz z[i] (List.getElem_mem hi)).1
    have hzl : (intCells z).length = z.length := by simp [intCells]
    rw [g32L0_eq, hzl, if_pos (lss_t hi)]
    refine (elem_ints hi _).trans ?_
    refine (elem_slot_at h0 hv _).trans ?_
    simp only [slotV, d2, d4, d8, d16]
    rw [s51, Option.bind_some]
    refine ite_goal (fun h => ?_) fun h => ?_
    · rw [if_pos h]
    · rw [if_neg h]
      refine (elem_ints hi _).trans ?_
      have hlt : z[i] < ((acc.map slotc).length : Int) := by rw [List.length_map, ha]; omega
      refine (reqK_pos h0 _).trans ?_
      refine (reqK_pos hlt _).trans ?_
      refine (reqK_pos h0 _).trans ?_
      refine (reqK_pos hlt _).trans ?_
      rw [inc_i hi hn, set_op]
  · show g32L0 (k + 1) _ _ _ _ _ = _
    rw [g32L0_eq, show (intCells z).length = z.length by simp [intCells], if_neg (lss_f hi)]

theorem take_ints (z : List Int) (i : Nat) : List.take (Int.toNat (i : Int)) (intCells z) = intCells (z.take i) := by
  rw [Int.toNat_natCast]; exact (List.map_take ..).symm

theorem ite_same {α : Type} {c : Prop} [Decidable c] {a b x : α} (h1 : c → a = x) (h2 : ¬ c → b = x) : (if c then a else b) = x := ite_goal h1 h2

theorem s24 (l : List Slot) (h : FewS l) (z : List Int) (hz : z.length ≤ 4096) (op : Int) : g24 (l.map slotc) (intCells z) op = some (resc (reserve l z op)) := by
  have hn : z.length < 2 ^ 63 := by omega
  have hzl : (intCells z).length = z.length := by simp [intCells]
  rw [g24_eq]
  refine ite_goal (fun h1 => ?_) fun h1 => ite_goal (fun h2 => ?_) fun h2 => ?_
  · simp only [CQ] at h1
    rw [reserve, if_pos (.inl h1)]; rfl
  · simp only [CQ] at h2
    rw [reserve, if_pos (.inr h2)]; rfl
  · simp only [CQ] at h1 h2
    rw [reserve, if_neg (by omega), hzl]
    have := scan_all (F := fun k i => g24L1 k (l.map slotc) (intCells z) op (intCells z) (z.length : Int) i) (n := z.length) (fin := (g36 (l.map slotc)).bind fun r6 => g24L0 FUEL (l.map slotc) op r6 (intCells z) (z.length : Int) 0) (bad := some ([], 1)) (okAt l.length z) hn 0 (by omega)
      (fun k i _ hi => by
        show g24L1 (k + 1) _ _ _ _ _ _ = _
        rw [g24L1_eq, if_pos (lss_t hi)]
        refine (elem_ints hi _).trans ?_
        simp only [okAt, List.getElem?_eq_getElem hi]
        refine ite_goal (fun h3 => ?_) fun h3 => ite_goal (fun h4 => ?_) fun h4 => ?_
        · simp only [CQ] at h3
          rw [if_neg (by simp; omega)]
        · simp only [CQ, List.length_map] at h4
          rw [if_neg (by simp; omega)]
        · simp only [CQ, List.length_map] at h3 h4
          refine (reqK_pos (by omega) _).trans ?_
          refine (reqK_pos (by rw [hzl]; omega) _).trans ?_
          rw [take_ints, s42 _ (by rw [List.length_take]; omega), Option.bind_some, inc_i hi hn]
          refine ite_goal (fun h5 => ?_) fun h5 => ?_
          · rw [if_neg (by simp only [h5]; simp)]
          · rw [if_pos (by simp only [Bool.not_eq_true] at h5; simp only [h5]; simp; omega)])
      (fun k i hi => by
        show g24L1 (k + 1) _ _ _ _ _ _ = _
        rw [g24L1_eq, if_neg (lss_f hi), hzl])
    refine this.trans ?_
    rw [Nat.sub_zero]
    by_cases hok : (List.range' 0 z.length).all (okAt l.length z) = true
    · rw [if_pos hok, if_pos hok, s36 l h, Option.bind_some]
      exact l24 l op z hn (ok_range hok)
    · rw [if_neg hok, if_neg hok]; rfl

theorem s32 (l : List Slot) (h : FewS l) (z : List Int) (hz : z.length ≤ 4096) (op : Int) : g32 (l.map slotc) (intCells z) op = some (resc (reserve l z op)) := by
  have hn : z.length < 2 ^ 63 := by omega
  have hzl : (intCells z).length = z.length := by simp [intCells]
  rw [g32_eq]
  refine ite_goal (fun h1 => ?_) fun h1 => ite_goal (fun h2 => ?_) fun h2 => ?_
  · simp only [CQ] at h1
    rw [reserve, if_pos (.inl h1)]; rfl
  · simp only [CQ] at h2
    rw [reserve, if_pos (.inr h2)]; rfl
  · simp only [CQ] at h1 h2
    rw [reserve, if_neg (by omega)]
    have := scan_all (F := fun k i => g32L1 k (l.map slotc) (intCells z) op i) (n := z.length) (fin := (g9 (l.map slotc)).bind fun r6 => g32L0 FUEL (l.map slotc) (intCells z) op r6 0) (bad := some ([], 1)) (okAt l.length z) hn 0 (by omega)
      (fun k i _ hi => by
        show g32L1 (k + 1) _ _ _ _ = _
        rw [g32L1_eq, hzl, if_pos (lss_t hi)]
        refine (elem_ints hi _).trans ?_
        simp only [okAt, List.getElem?_eq_getElem hi]
        refine ite_goal (fun h3 => ?_) fun h3 => ?_
        · simp only [CQ] at h3
          rw [if_neg (by simp; omega)]
        refine (elem_ints hi _).trans ?_
        refine ite_goal (fun h4 => ?_) fun h4 => ?_
        · simp only [CQ, List.length_map] at h4
          rw [if_neg (by simp; omega)]
        · simp only [CQ, List.length_map] at h3 h4
          refine (reqK_pos (by omega) _).trans ?_
          refine (reqK_pos (by omega) _).trans ?_
          refine (elem_ints hi _).trans ?_
          rw [take_ints, s50 _ (by rw [List.length_take]; omega), Option.bind_some, inc_i hi hn]
          refine ite_goal (fun h5 => ?_) fun h5 => ?_
          · rw [if_neg (by simp only [h5]; simp)]
          · rw [if_pos (by simp only [Bool.not_eq_true] at h5; simp only [h5]; simp; omega)])
      (fun k i hi => by
        show g32L1 (k + 1) _ _ _ _ = _
        rw [g32L1_eq, hzl, if_neg (lss_f hi)])
    refine this.trans ?_
    rw [Nat.sub_zero]
    by_cases hok : (List.range' 0 z.length).all (okAt l.length z) = true
    · rw [if_pos hok, if_pos hok, s9 l h, Option.bind_some]
      exact l32 l op z hn (ok_range hok)
    · rw [if_neg hok, if_neg hok]; rfl

end Go.Proofs.YtmgfkjonkdfedaaGreat
end

section
namespace Go.Proofs.YtmgfkjonkdfedaaGreat
open Go Go.AM
set_option linter.unusedSimpArgs false
set_option linter.unusedVariables false
set_option maxRecDepth 100000

theorem scan_stop {γ : Type} {F : Nat → Int → Option γ} {n : Nat} (hit : Nat → γ) (p : Nat → Bool) (hn : n < 2 ^ 63)
    (step : ∀ k i : Nat, i < n → F (k + 1) (i : Int) = if p i = true then some (hit i) else F k ((i + 1 : Nat) : Int))
    (last : ∀ k : Nat, F (k + 1) (n : Int) = some (hit n)) (m : Nat) (hm : m ≤ n) (h1 : ∀ j, j < m → p j = false) (h2 : m < n → p m = true) : F FUEL 0 = some (hit m) := by
  have key : ∀ (j i fuel : Nat), i + j = m → n - i < fuel → F fuel (i : Int) = some (hit m) := by
    intro j
    induction j with
    | zero =>
      intro i fuel h hf
      obtain ⟨q, rfl⟩ : ∃ q, fuel = q + 1 := ⟨fuel - 1, by omega⟩
      have : i = m := by omega
      subst this
      by_cases hi : i < n
      · rw [step q i hi, if_pos (h2 hi)]
      · have : i = n := by omega
        subst this
        exact last q
    | succ j ih =>
      intro i fuel h hf
      obtain ⟨q, rfl⟩ : ∃ q, fuel = q + 1 := ⟨fuel - 1, by omega⟩
      rw [step q i (by omega), if_neg (by rw [h1 i (by omega)]; exact Bool.false_ne_true)]
      exact ih (i + 1) q (by omega) (by omega)
  exact key m 0 FUEL (by omega) (by have := fuel63 hn; omega)

/-- The first place where it holds; else the end. -/
def fst' {α : Type} (q : α → Bool) : List α → Nat
  | [] => 0
  | a :: r => match q a with | true => 0 | false => fst' q r + 1

theorem fst_le {α : Type} (q : α → Bool) : ∀ (l : List α), fst' q l ≤ l.length
  | [] => Nat.le_refl _
  | a :: r => by
    unfold fst'
    have := fst_le q r
    split <;> simp only [List.length_cons] <;> omega

theorem fst_lt {α : Type} (q : α → Bool) : ∀ (l : List α) (j : Nat) (hj : j < l.length), j < fst' q l → q l[j] = false
  | [], j, hj, _ => by simp at hj
  | a :: r, j, hj, h => by
    unfold fst' at h
    split at h
    · omega
    · rename_i ha
      cases j with
      | zero => exact ha
      | succ j => exact fst_lt q r j (by simpa using hj) (by omega)

theorem fst_at {α : Type} (q : α → Bool) : ∀ (l : List α) (h : fst' q l < l.length), q l[fst' q l] = true
  | [], h => by simp at h
  | a :: r, h => by
    cases ha : q a with
    | true =>
      have e : fst' q (a :: r) = 0 := by unfold fst'; rw [ha]
      simp only [e]
      exact ha
    | false =>
      have e : fst' q (a :: r) = fst' q r + 1 := by rw [fst']; rw [ha]
      have h' : fst' q r < r.length := by rw [e] at h; simpa using h
      have := fst_at q r h'
      simp only [e]
      exact this

def atR (q : Req → Bool) (p : List Req) (i : Nat) : Bool := match p[i]? with | some x => q x | none => false
theorem atR_at (q : Req → Bool) {p : List Req} {i : Nat} (h : i < p.length) : atR q p i = q p[i] := by unfold atR; rw [List.getElem?_eq_getElem h]

def idIs (i : Id) (r : Req) : Bool := decide (r.id = i)
def idIn (i : Id) (p : List Req) : Bool := decide (fst' (idIs i) p < p.length)

def hitZ (n m : Nat) : Int := if m < n then (m : Int) else -1
theorem hitZ_geq (n m : Nat) : cop .geq (hitZ n m) 0 = decide (m < n) := by
  unfold hitZ
  rw [bool_iff]
  split <;> simp only [CQ] <;> constructor <;> intro <;> first | omega | simp_all
theorem hitZ_lt {n m : Nat} (h : m < n) : hitZ n m = (m : Int) := if_pos h

theorem id_dec (r : Req) (i : Id) : ((cop .eql r.id.core i.core) && ((cop .eql r.id.op i.op) && ((cop .eql r.id.part i.part) && true))) = idIs i r := by
  rw [bool_iff, id_eqb]
  unfold idIs
  rw [decide_eq_true_eq]

theorem s23 (p : List Req) (hn : p.length < 2 ^ 63) (i : Id) : g23 (p.map reqc) i.core i.op i.part = some (hitZ p.length (fst' (idIs i) p), idIn i p) := by
  rw [g23_eq, g25c41_eq, List.length_map]
  have := scan_stop (F := fun k z => g25c41L0 k (p.map reqc) (p.length : Int) z i.core i.op i.part) (n := p.length) (fun m => (hitZ p.length m, i.core, i.op, i.part)) (atR (idIs i) p) hn
    (fun k j hj => by
      show g25c41L0 (k + 1) _ _ _ _ _ _ = _
      rw [g25c41L0_eq, if_pos (lss_t hj)]
      refine (elem_reqs hj _).trans ?_
      simp only [reqV, d2, d4, d8, d16]
      rw [g41_eq, Option.bind_some, id_dec, atR_at _ hj, inc_i hj hn, hitZ_lt hj])
    (fun k => by
      show g25c41L0 (k + 1) _ _ _ _ _ _ = _
      rw [g25c41L0_eq, if_neg (lss_f (Nat.le_refl _)), hitZ, if_neg (Nat.lt_irrefl _)]) (fst' (idIs i) p) (fst_le _ p) (fun j hj => by
        have hl := fst_le (idIs i) p
        rw [atR_at _ (by omega)]; exact fst_lt _ p j (by omega) hj) (fun h => by rw [atR_at _ h]; exact fst_at _ p h)
  have this' : g25c41L0 FUEL (p.map reqc) (p.length : Int) 0 i.core i.op i.part = _ := this
  rw [this', Option.bind_some, hitZ_geq]
  try rfl

theorem s20 (p : List Req) (hn : p.length < 2 ^ 63) (i : Id) : g20 (p.map reqc) i.core i.op i.part = some (hitZ p.length (fst' (idIs i) p)) := by
  rw [g20_eq]
  exact scan_stop (F := fun k z => g20L0 k (p.map reqc) i.core i.op i.part z) (n := p.length) (fun m => hitZ p.length m) (atR (idIs i) p) hn
    (fun k j hj => by
      show g20L0 (k + 1) _ _ _ _ _ = _
      rw [g20L0_eq, List.length_map, if_pos (lss_t hj)]
      refine (elem_reqs hj _).trans ?_
      refine ite_goal (fun h => ?_) fun h => ?_
      · have e : idIs i p[j] = true := by rw [← id_dec]; exact h
        rw [atR_at _ hj, if_pos e, hitZ_lt hj]
      · have e : ¬ idIs i p[j] = true := by rw [← id_dec]; exact h
        rw [atR_at _ hj, if_neg e, inc_i hj hn])
    (fun k => by
      show g20L0 (k + 1) _ _ _ _ _ = _
      rw [g20L0_eq, List.length_map, if_neg (lss_f (Nat.le_refl _)), hitZ, if_neg (Nat.lt_irrefl _)]) (fst' (idIs i) p) (fst_le _ p) (fun j hj => by
        have hl := fst_le (idIs i) p
        rw [atR_at _ (by omega)]; exact fst_lt _ p j (by omega) hj) (fun h => by rw [atR_at _ h]; exact fst_at _ p h)

def before (r q : Req) : Bool := ltId r.id q.id
def posR (p : List Req) (r : Req) : Nat := fst' (before r) p
def insR (p : List Req) (r : Req) (i : Nat) : List Req := p.take i ++ [r] ++ p.drop i

theorem s25c26 (p : List Req) (hn : p.length < 2 ^ 63) (r : Req) : g25c26 (p.map reqc) r.id.core r.id.op r.id.part r.call.kind r.call.slot r.call.dest r.call.core r.call.mask r.call.object r.call.bits r.call.level r.call.offset r.call.count r.call.index r.call.addr r.region r.width r.src.id.core r.src.id.op r.src.id.part (idCells r.src.path) r.src.cap.kind r.src.cap.base r.src.cap.bits r.src.cap.rights r.src.cap.width r.src.cap.level r.src.cap.device = some (hitZ p.length (posR p r), r.id.core, r.id.op, r.id.part, r.call.kind, r.call.slot, r.call.dest, r.call.core, r.call.mask, r.call.object, r.call.bits, r.call.level, r.call.offset, r.call.count, r.call.index, r.call.addr, r.region, r.width, r.src.id.core, r.src.id.op, r.src.id.part, (idCells r.src.path), r.src.cap.kind, r.src.cap.base, r.src.cap.bits, r.src.cap.rights, r.src.cap.width, r.src.cap.level, r.src.cap.device) := by
  rw [g25c26_eq, List.length_map]
  exact scan_stop (F := fun k z => g25c26L0 k (p.map reqc) (p.length : Int) z r.id.core r.id.op r.id.part r.call.kind r.call.slot r.call.dest r.call.core r.call.mask r.call.object r.call.bits r.call.level r.call.offset r.call.count r.call.index r.call.addr r.region r.width r.src.id.core r.src.id.op r.src.id.part (idCells r.src.path) r.src.cap.kind r.src.cap.base r.src.cap.bits r.src.cap.rights r.src.cap.width r.src.cap.level r.src.cap.device) (n := p.length) (fun m => (hitZ p.length m, r.id.core, r.id.op, r.id.part, r.call.kind, r.call.slot, r.call.dest, r.call.core, r.call.mask, r.call.object, r.call.bits, r.call.level, r.call.offset, r.call.count, r.call.index, r.call.addr, r.region, r.width, r.src.id.core, r.src.id.op, r.src.id.part, (idCells r.src.path), r.src.cap.kind, r.src.cap.base, r.src.cap.bits, r.src.cap.rights, r.src.cap.width, r.src.cap.level, r.src.cap.device)) (atR (before r) p) hn
    (fun k j hj => by
      show g25c26L0 (k + 1) _ _ _ _ _ _ _ _ _ _ _ _ _ _ _ _ _ _ _ _ _ _ _ _ _ _ _ _ _ _ _ = _
      rw [g25c26L0_eq, if_pos (lss_t hj)]
      refine (elem_reqs hj _).trans ?_
      simp only [reqV, d2, d4, d8, d16]
      rw [g26_eq, s27, Option.bind_some, Option.bind_some, atR_at _ hj, inc_i hj hn, hitZ_lt hj]
      rfl)
    (fun k => by
      show g25c26L0 (k + 1) _ _ _ _ _ _ _ _ _ _ _ _ _ _ _ _ _ _ _ _ _ _ _ _ _ _ _ _ _ _ _ = _
      rw [g25c26L0_eq, if_neg (lss_f (Nat.le_refl _)), hitZ, if_neg (Nat.lt_irrefl _)]) (fst' (before r) p) (fst_le _ p) (fun j hj => by
        have hl := fst_le (before r) p
        rw [atR_at _ (by omega)]; exact fst_lt _ p j (by omega) hj) (fun h => by rw [atR_at _ h]; exact fst_at _ p h)

theorem few_take {p : List Req} (h : Few p) (i : Nat) : Few (p.take i) := ⟨by have := h.len; rw [List.length_take]; omega, fun r hr => h.path r (List.mem_of_mem_take hr)⟩
theorem few_drop {p : List Req} (h : Few p) (i : Nat) : Few (p.drop i) := ⟨by have := h.len; rw [List.length_drop]; omega, fun r hr => h.path r (List.mem_of_mem_drop hr)⟩

theorem take_reqs (p : List Req) (i : Nat) : List.take (Int.toNat (i : Int)) (p.map reqc) = (p.take i).map reqc := by rw [Int.toNat_natCast]; exact (List.map_take ..).symm
theorem drop_reqs (p : List Req) (i : Nat) : List.drop (Int.toNat (i : Int)) (p.map reqc) = (p.drop i).map reqc := by rw [Int.toNat_natCast]; exact (List.map_drop ..).symm

/-- What Begin does. -/
def beginS (l : List Slot) (p : List Req) (r : Req) (z : List Int) : List Slot × List Req × Int :=
  if idIn r.id p = true then ([], [], 1) else if (reserve l z r.id.op).2 ≠ 0 then ([], [], (reserve l z r.id.op).2) else ((reserve l z r.id.op).1, insR p r (posR p r), 0)

def beginc (b : List Slot × List Req × Int) : LL × LL × Int := (b.1.map slotc, b.2.1.map reqc, b.2.2)

theorem ins_cells (p : List Req) (r : Req) (m : Nat) (hm : m ≤ p.length) (h : Few p) : g29 (p.map reqc) (m : Int) [reqc r] = some ((insR p r m).map reqc) := by
  rw [g29_eq, gIns]
  refine (reqK_pos (by omega) _).trans ?_
  refine (reqK_pos (by rw [List.length_map]; omega) _).trans ?_
  refine (reqK_pos (by simp) _).trans ?_
  refine (reqK_pos (room_small (by have := h.len; simp; omega) (by omega)) _).trans ?_
  rw [take_reqs, drop_reqs, insR, List.map_append, List.map_append]
  rfl

theorem s8 (l : List Slot) (hl : FewS l) (p : List Req) (hp : Few p) (r : Req) (hr : r.src.path.length ≤ 20) (z : List Int) (hz : z.length ≤ 4096) : g8 (l.map slotc) (p.map reqc) r.id.core r.id.op r.id.part r.call.kind r.call.slot r.call.dest r.call.core r.call.mask r.call.object r.call.bits r.call.level r.call.offset r.call.count r.call.index r.call.addr r.region r.width r.src.id.core r.src.id.op r.src.id.part (idCells r.src.path) r.src.cap.kind r.src.cap.base r.src.cap.bits r.src.cap.rights r.src.cap.width r.src.cap.level r.src.cap.device (intCells z) = some (beginc (beginS l p r z)) := by
  have hn : p.length < 2 ^ 63 := by have := hp.len; omega
  rw [g8_eq, s23 p hn, Option.bind_some, beginS]
  refine ite_goal (fun h1 => ?_) fun h1 => ?_
  · rw [if_pos h1]; rfl
  rw [if_neg h1, s24 l hl z hz, Option.bind_some]
  refine ite_goal (fun h2 => ?_) fun h2 => ?_
  · simp only [CQ] at h2
    have h2' : (reserve l z r.id.op).2 ≠ 0 := h2
    rw [if_pos h2']; rfl
  simp only [CQ] at h2
  have h2' : ¬ (reserve l z r.id.op).2 ≠ 0 := h2
  rw [if_neg h2', s25c26 p hn r, Option.bind_some]
  simp only [d2, d4, d8, d16]
  have hpos : posR p r ≤ p.length := fst_le _ p
  refine ite_goal (fun h3 => ?_) fun h3 => ?_
  · have h4 : posR p r = p.length := by
      simp only [CQ, hitZ] at h3
      split at h3
      · omega
      · omega
    rw [s28 r.src (by omega), Option.bind_some, s30 p hp, Option.bind_some, List.length_map]
    have := ins_cells p r p.length (Nat.le_refl _) hp
    refine (congrArg (fun o => Option.bind o _) this).trans ?_
    rw [Option.bind_some, h4]
    rfl
  · have h4 : posR p r < p.length := by
      by_cases h : posR p r < p.length
      · exact h
      · refine (h3 ?_).elim
        simp only [CQ, hitZ, if_neg h]
        omega
    rw [s28 r.src (by omega), Option.bind_some, s30 p hp, Option.bind_some, hitZ_lt h4]
    have := ins_cells p r (posR p r) hpos hp
    refine (congrArg (fun o => Option.bind o _) this).trans ?_
    rw [Option.bind_some]
    rfl

theorem l12 (p : List Req) (hp : Few p) (r : Req) (hr : r.src.path.length ≤ 20) (x : LL) : g12L0 FUEL (p.map reqc) r.id.core r.id.op r.id.part r.call.kind r.call.slot r.call.dest r.call.core r.call.mask r.call.object r.call.bits r.call.level r.call.offset r.call.count r.call.index r.call.addr r.region r.width r.src.id.core r.src.id.op r.src.id.part (idCells r.src.path) r.src.cap.kind r.src.cap.base r.src.cap.bits r.src.cap.rights r.src.cap.width r.src.cap.level r.src.cap.device x 0 = some (x, (insR p r (posR p r)).map reqc, 0) := by
  have hn : p.length < 2 ^ 63 := by have := hp.len; omega
  have fin : ∀ i : Nat, i ≤ p.length → ∀ y, (g10 ((p.take i).map reqc) = some ((p.take i).map reqc)) ∧ (g10 ((p.drop i).map reqc) = some ((p.drop i).map reqc)) ∧ (y = (p.take i).map reqc ++ [reqc r] ++ (p.drop i).map reqc → y = (insR p r i).map reqc) := by
    intro i hi y
    refine ⟨s10 _ (few_take hp i), s10 _ (few_drop hp i), fun h => ?_⟩
    rw [h, insR, List.map_append, List.map_append]
    rfl
  have hroom : ∀ i : Nat, i ≤ p.length → roomP ((p.take i).map reqc) [reqc r] 240 ∧ roomP ((p.take i).map reqc ++ [reqc r]) ((p.drop i).map reqc) 240 := by
    intro i hi
    have := hp.len
    exact ⟨room_small (by simp; omega) (by omega), room_small (by simp; omega) (by omega)⟩
  refine scan_stop (F := fun k z => g12L0 k (p.map reqc) r.id.core r.id.op r.id.part r.call.kind r.call.slot r.call.dest r.call.core r.call.mask r.call.object r.call.bits r.call.level r.call.offset r.call.count r.call.index r.call.addr r.region r.width r.src.id.core r.src.id.op r.src.id.part (idCells r.src.path) r.src.cap.kind r.src.cap.base r.src.cap.bits r.src.cap.rights r.src.cap.width r.src.cap.level r.src.cap.device x z) (n := p.length) (fun m => (x, (insR p r m).map reqc, 0)) (atR (before r) p) hn (fun k j hj => ?_) (fun k => ?_) (posR p r) (fst_le _ p) (fun j hj => by
        have hl := fst_le (before r) p
        unfold posR at hj
        rw [atR_at _ (by omega)]; exact fst_lt _ p j (by omega) hj) (fun h => by rw [atR_at _ h]; exact fst_at _ p h)
  · show g12L0 (k + 1) _ _ _ _ _ _ _ _ _ _ _ _ _ _ _ _ _ _ _ _ _ _ _ _ _ _ _ _ _ _ _ = _
    rw [g12L0_eq, List.length_map, if_pos (lss_t hj)]
    refine (elem_reqs hj _).trans ?_
    simp only [reqV, d2, d4, d8, d16]
    rw [s33, Option.bind_some, atR_at _ hj]
    refine ite_goal (fun h => ?_) fun h => ?_
    · have hb : before r p[j] = false := by simpa [before, ltId] using h
      rw [if_neg (by rw [hb]; exact Bool.false_ne_true), inc_i hj hn]
    · have hb : before r p[j] = true := by simpa [before, ltId] using h
      rw [if_pos hb]
      refine (reqK_pos (by omega) _).trans ?_
      refine (reqK_pos (by omega) _).trans ?_
      rw [take_reqs, (fin j (by omega) []).1, Option.bind_some, s11 r (by omega), Option.bind_some]
      refine (reqK_pos (hroom j (by omega)).1 _).trans ?_
      refine (reqK_pos (by omega) _).trans ?_
      refine (reqK_pos (by omega) _).trans ?_
      rw [drop_reqs, (fin j (by omega) []).2.1, Option.bind_some]
      refine (reqK_pos (hroom j (by omega)).2 _).trans ?_
      exact congrArg (fun y => some (x, y, (0 : Int))) ((fin j (by omega) _).2.2 rfl)
  · show g12L0 (k + 1) _ _ _ _ _ _ _ _ _ _ _ _ _ _ _ _ _ _ _ _ _ _ _ _ _ _ _ _ _ _ _ = _
    rw [g12L0_eq, List.length_map, if_neg (lss_f (Nat.le_refl _))]
    refine (reqK_pos (by omega) _).trans ?_
    refine (reqK_pos (by omega) _).trans ?_
    rw [take_reqs, (fin p.length (Nat.le_refl _) []).1, Option.bind_some, s11 r (by omega), Option.bind_some]
    simp only [reqV, d2, d4, d8, d16]
    refine (reqK_pos (hroom p.length (Nat.le_refl _)).1 _).trans ?_
    refine (reqK_pos (by omega) _).trans ?_
    refine (reqK_pos (by omega) _).trans ?_
    rw [drop_reqs, (fin p.length (Nat.le_refl _) []).2.1, Option.bind_some]
    refine (reqK_pos (hroom p.length (Nat.le_refl _)).2 _).trans ?_
    exact congrArg (fun y => some (x, y, (0 : Int))) ((fin p.length (Nat.le_refl _) _).2.2 rfl)

theorem s12 (l : List Slot) (hl : FewS l) (p : List Req) (hp : Few p) (r : Req) (hr : r.src.path.length ≤ 20) (z : List Int) (hz : z.length ≤ 4096) : g12 (l.map slotc) (p.map reqc) r.id.core r.id.op r.id.part r.call.kind r.call.slot r.call.dest r.call.core r.call.mask r.call.object r.call.bits r.call.level r.call.offset r.call.count r.call.index r.call.addr r.region r.width r.src.id.core r.src.id.op r.src.id.part (idCells r.src.path) r.src.cap.kind r.src.cap.base r.src.cap.bits r.src.cap.rights r.src.cap.width r.src.cap.level r.src.cap.device (intCells z) = some (beginc (beginS l p r z)) := by
  have hn : p.length < 2 ^ 63 := by have := hp.len; omega
  rw [g12_eq, s20 p hn, Option.bind_some, beginS]
  refine ite_goal (fun h1 => ?_) fun h1 => ?_
  · rw [hitZ_geq] at h1
    have h1' : idIn r.id p = true := h1
    rw [if_pos h1']; rfl
  rw [hitZ_geq] at h1
  have h1' : ¬ idIn r.id p = true := h1
  rw [if_neg h1', s32 l hl z hz, Option.bind_some]
  refine ite_goal (fun h2 => ?_) fun h2 => ?_
  · simp only [CQ] at h2
    have h2' : (reserve l z r.id.op).2 ≠ 0 := h2
    rw [if_pos h2']; rfl
  simp only [CQ] at h2
  have h2' : ¬ (reserve l z r.id.op).2 ≠ 0 := h2
  rw [if_neg h2']
  exact l12 p hp r hr _

theorem rsv_len (l : List Slot) (op : Int) : ∀ (z : List Int) (acc a : List Slot), rsv l op z acc = some a → a.length = acc.length ∧ ∀ (i : Nat), (a[i]?).map (fun s => s.node) = (acc[i]?).map (fun s => s.node)
  | [], acc, a, h => by
    simp only [rsv, Option.some.injEq] at h
    subst h
    exact ⟨rfl, fun _ => rfl⟩
  | z :: zs, acc, a, h => by
    simp only [rsv] at h
    split at h
    · split at h
      · cases h
      · obtain ⟨h1, h2⟩ := rsv_len l op zs _ a h
        refine ⟨by rw [h1, List.length_modify], fun i => ?_⟩
        rw [h2 i, List.getElem?_modify]
        cases acc[i]? with
        | none => rfl
        | some s =>
          simp only [Option.map_eq_map, Option.map_some]
          split <;> rfl
    · cases h

theorem reserve_few (l : List Slot) (hl : FewS l) (z : List Int) (op : Int) : (reserve l z op).1.length ≤ 70 ∧ ∀ s ∈ (reserve l z op).1, s.node.path.length ≤ 20 := by
  unfold reserve
  split
  · exact ⟨by simp, by simp⟩
  · split
    · unfold rsv2
      split
      · rename_i a ha
        obtain ⟨h1, h2⟩ := rsv_len l op z l a ha
        refine ⟨by show a.length ≤ 70; rw [h1]; exact hl.len, fun s hs => ?_⟩
        obtain ⟨i, hi, rfl⟩ := List.getElem_of_mem hs
        have := h2 i
        have hi' : i < l.length := by have : i < a.length := hi; omega
        have hia : i < a.length := hi
        rw [List.getElem?_eq_getElem hia, List.getElem?_eq_getElem hi', Option.map_some, Option.map_some, Option.some.injEq] at this
        show a[i].node.path.length ≤ 20
        rw [this]
        exact hl.path _ (List.getElem_mem hi')
      · exact ⟨by simp, by simp⟩
    · exact ⟨by simp, by simp⟩

theorem sameS_refl (a : Slot) : sameS a a = true := by simp [sameS, sameN_refl]

theorem s3 (l : List Slot) (hl : l.length < 2 ^ 63) (hlp : ∀ s ∈ l, s.node.path.length < 2 ^ 63) (p : List Req) (hn : p.length < 2 ^ 63) (hp : ∀ r ∈ p, r.src.path.length < 2 ^ 63) (r : Req) (hr : r.src.path.length < 2 ^ 63) (z : List Int) : g3 (l.map slotc) (p.map reqc) r.id.core r.id.op r.id.part r.call.kind r.call.slot r.call.dest r.call.core r.call.mask r.call.object r.call.bits r.call.level r.call.offset r.call.count r.call.index r.call.addr r.region r.width r.src.id.core r.src.id.op r.src.id.part (idCells r.src.path) r.src.cap.kind r.src.cap.base r.src.cap.bits r.src.cap.rights r.src.cap.width r.src.cap.level r.src.cap.device (intCells z) = some true := by
  rw [g3_eq]
  obtain ⟨b, h1, h2⟩ := s6 l p hl hn
  rw [h1, Option.bind_some]
  refine ite_goal (fun _ => by rw [s7]; rfl) fun hb => ?_
  have hb' : b = true := by cases b <;> simp_all
  obtain ⟨hs, hf⟩ := h2 hb'
  refine ite_goal (fun _ => by rw [s7]; rfl) fun h3 => ?_
  refine ite_goal (fun _ => by rw [s7]; rfl) fun h4 => ?_
  simp only [CQ, ids_len] at h3
  have hzl : (intCells z).length = z.length := by simp [intCells]
  simp only [CQ, hzl] at h4
  rw [s9 l hs, Option.bind_some, s10 p hf, Option.bind_some, s11 r (by omega), Option.bind_some]
  refine (reqK_pos (room_small (by rw [hzl]; simp; omega) (by omega)) _).trans ?_
  simp only [reqV, d2, d4, d8, d16]
  rw [s8 l hs p hf r (by omega) z (by omega), Option.bind_some, s12 l hs p hf r (by omega) z (by omega), Option.bind_some]
  have hrf := reserve_few l hs z r.id.op
  have hbl : (beginS l p r z).1.length < 2 ^ 63 ∧ (∀ s ∈ (beginS l p r z).1, s.node.path.length < 2 ^ 63) ∧ (beginS l p r z).2.1.length < 2 ^ 63 ∧ ∀ x ∈ (beginS l p r z).2.1, x.src.path.length < 2 ^ 63 := by
    unfold beginS
    split
    · simp
    · split
      · simp
      · refine ⟨by show (reserve l z r.id.op).1.length < 2 ^ 63; omega, fun s hs' => by have := hrf.2 s hs'; omega, ?_, fun x hx => ?_⟩
        · show (insR p r (posR p r)).length < 2 ^ 63
          have := hf.len
          simp only [insR, List.length_append, List.length_take, List.length_drop, List.length_cons, List.length_nil]
          omega
        · have hx' : x ∈ p.take (posR p r) ++ [r] ++ p.drop (posR p r) := hx
          rcases List.mem_append.1 hx' with hx | hx
          · rcases List.mem_append.1 hx with hx | hx
            · exact hp x (List.mem_of_mem_take hx)
            · rw [List.mem_singleton] at hx; rw [hx]; exact hr
          · exact hp x (List.mem_of_mem_drop hx)
  simp only [beginc]
  rw [s13 _ _ hbl.1 hbl.2.1 hbl.2.1, Option.bind_some, sameL_refl _ sameS_refl]
  refine (if_pos rfl).trans ?_
  rw [s14 _ _ hbl.2.2.1 hbl.2.2.2 hbl.2.2.2, Option.bind_some, sameL_refl _ sameR_refl]
  refine (if_pos rfl).trans ?_
  refine (if_pos (by simp [cop])).trans ?_
  rw [s7]; rfl

end Go.Proofs.YtmgfkjonkdfedaaGreat
end

section
namespace Go.Proofs.YtmgfkjonkdfedaaGreat
open Go Go.AM
set_option linter.unusedSimpArgs false
set_option linter.unusedVariables false
set_option maxRecDepth 100000

/-- multikernelmake.Place -/
def place (x n : Int) : Int := x % n

theorem s18 (x : Int) {n : Int} (h1 : 1 ≤ n) (h2 : n ≤ 4611686018427387904) : g18 x n = some (place x n) := by
  rw [g18_eq]
  have h0 : n ≠ 0 := by omega
  have ht : iop .rem .i64 x n = x.tmod n := rfl
  refine ite_goal (fun h => ?_) fun _ => ?_
  · simp only [CQ] at h
    omega
  refine (reqK_pos h0 _).trans ?_
  have e := Int.tmod_eq_emod (a := x) (b := n)
  have l1 := Int.emod_nonneg x h0
  have l2 := Int.emod_lt_of_pos x (show 0 < n by omega)
  have hna : (n.natAbs : Int) = n := by omega
  rw [ht]
  refine ite_goal (fun h => ?_) fun h => ?_
  · simp only [CQ] at h
    rw [add_i (by rw [e]; split <;> omega) (by rw [e]; split <;> omega)]
    rw [place]
    refine congrArg some ?_
    rw [e] at h ⊢
    split at h
    · omega
    · rename_i hc
      rw [if_neg hc]
      omega
  · simp only [CQ] at h
    rw [place]
    refine congrArg some ?_
    rw [e] at h ⊢
    split at h
    · rename_i hc
      rw [if_pos hc]
      omega
    · omega

theorem place_lt (x : Int) {n : Int} (h : 1 ≤ n) : 0 ≤ place x n ∧ place x n < n := ⟨Int.emod_nonneg x (by omega), Int.emod_lt_of_pos x (by omega)⟩

def clm (op reg : Int) : Req := ⟨⟨0, op, 0⟩, ⟨1, 0, 1, 0, 0, 0, 12, 0, 0, 0, 0, 0⟩, reg, 32, noNode⟩

theorem s19 (op : Int) : g19 op = some (reqV (clm op 0)) := by
  rw [g19_eq]; rfl

def zslot : Slot := ⟨noNode, 0, zid⟩
def slots3 : List Slot := [zslot, zslot, zslot]

theorem few3 : FewS slots3 := ⟨by decide, by
  intro s hs
  have : s = zslot := by simpa [slots3] using hs
  rw [this]
  decide⟩

theorem reserve3 (op : Int) (h1 : 1 ≤ op) (h2 : op ≤ 1073741824) : (reserve slots3 [1] op).2 = 0 := by
  have e : (List.range' 0 [(1 : Int)].length).all (okAt slots3.length [1]) = true := by decide
  rw [reserve, if_neg (by omega), if_pos e]
  rfl

/-- What has been begun. -/
structure Begun (p : List Req) : Prop where
  shape : ∀ r ∈ p, ∃ op reg, r = clm op reg ∧ 1 ≤ op ∧ op ≤ 60 ∧ 0 ≤ reg
  asc : p.Pairwise (fun a b => a.id.op < b.id.op)

theorem begun_few {p : List Req} (h : Begun p) (hl : p.length ≤ 30) : Few p := ⟨hl, fun r hr => by
  obtain ⟨op, reg, rfl, _⟩ := h.shape r hr
  simp [clm, noNode]⟩

theorem not_in {q : Req → Bool} {p : List Req} (h : ¬ fst' q p < p.length) : ∀ r ∈ p, q r = false := by
  intro r hr
  obtain ⟨j, hj, rfl⟩ := List.getElem_of_mem hr
  have := fst_le q p
  exact fst_lt q p j hj (by omega)

theorem lt_clm {a b c d : Int} : before (clm a b) (clm c d) = decide (a < c) := by
  simp [before, ltId, idLt, clm]

theorem begun_ins {p : List Req} (h : Begun p) {op reg : Int} (h1 : 1 ≤ op) (h2 : op ≤ 60) (h3 : 0 ≤ reg) (hno : idIn (clm op reg).id p ≠ true) : Begun (insR p (clm op reg) (posR p (clm op reg))) := by
  have hno' : ∀ r ∈ p, r.id.op ≠ op := by
    intro r hr he
    have hh := not_in (q := idIs (clm op reg).id) (p := p) (by simpa [idIn] using hno) r hr
    obtain ⟨o', r', rfl, _⟩ := h.shape r hr
    have : o' = op := he
    subst this
    simp [idIs, clm] at hh
  have hpos := fst_le (before (clm op reg)) p
  have hlow : ∀ r ∈ p.take (posR p (clm op reg)), r.id.op < op := by
    intro r hr
    have hrp := List.mem_of_mem_take hr
    obtain ⟨j, hj, rfl⟩ := List.getElem_of_mem hr
    have hjl : j < posR p (clm op reg) ∧ j < p.length := by
      have := hj
      rw [List.length_take] at this
      omega
    rw [List.getElem_take] at hrp ⊢
    have hb := fst_lt (before (clm op reg)) p j hjl.2 hjl.1
    have hne := hno' _ hrp
    obtain ⟨o', r', he, _⟩ := h.shape _ hrp
    rw [he, lt_clm] at hb
    rw [he] at hne ⊢
    have hb' : ¬ op < o' := by simpa using hb
    have hne' : o' ≠ op := hne
    show o' < op
    omega
  have hhigh : ∀ r ∈ p.drop (posR p (clm op reg)), op < r.id.op := by
    intro r hr
    have hrp := List.mem_of_mem_drop hr
    by_cases hlt : posR p (clm op reg) < p.length
    · have hat := fst_at (before (clm op reg)) p hlt
      obtain ⟨o0, r0, he0, _⟩ := h.shape _ (List.getElem_mem hlt)
      have hat' : before (clm op reg) p[posR p (clm op reg)] = true := hat
      rw [he0, lt_clm] at hat'
      have h0 : op < o0 := by simpa using hat'
      rw [List.drop_eq_getElem_cons hlt] at hr
      rcases List.mem_cons.1 hr with rfl | hr
      · rw [he0]; exact h0
      · have hp := h.asc
        have hsub : (p.drop (posR p (clm op reg))).Pairwise (fun a b => a.id.op < b.id.op) := hp.sublist (List.drop_sublist _ _)
        rw [List.drop_eq_getElem_cons hlt, List.pairwise_cons] at hsub
        have := hsub.1 r hr
        rw [he0] at this
        have this' : o0 < r.id.op := this
        omega
    · rw [List.drop_of_length_le (by omega)] at hr
      simp at hr
  refine ⟨fun r hr => ?_, ?_⟩
  · have hr' : r ∈ p.take (posR p (clm op reg)) ++ [clm op reg] ++ p.drop (posR p (clm op reg)) := hr
    rcases List.mem_append.1 hr' with hr | hr
    · rcases List.mem_append.1 hr with hr | hr
      · exact h.shape r (List.mem_of_mem_take hr)
      · rw [List.mem_singleton] at hr
        exact ⟨op, reg, hr, h1, h2, h3⟩
    · exact h.shape r (List.mem_of_mem_drop hr)
  · unfold insR
    rw [List.append_assoc, List.pairwise_append]
    refine ⟨h.asc.sublist (List.take_sublist _ _), ?_, fun a ha b hb => ?_⟩
    · rw [List.singleton_append, List.pairwise_cons]
      exact ⟨fun b hb => hhigh b hb, h.asc.sublist (List.drop_sublist _ _)⟩
    · rw [List.singleton_append] at hb
      have hla := hlow a ha
      rcases List.mem_cons.1 hb with rfl | hb
      · exact hla
      · have := hhigh b hb
        omega

theorem ins_len (p : List Req) (r : Req) (m : Nat) (h : m ≤ p.length) : (insR p r m).length = p.length + 1 := by
  simp only [insR, List.length_append, List.length_take, List.length_drop, List.length_cons, List.length_nil]
  omega

/-- The messages that come out. -/
def outs (vo : List Int) (p : List Req) : List Msg := (p.filter (sendB vo)).map (reqM vo)

def cnt (vo : List Int) (p : List Req) (i : Nat) : Nat := ((p.take i).filter (sendB vo)).length

theorem cnt_end (vo : List Int) (p : List Req) : cnt vo p p.length = (outs vo p).length := by
  unfold cnt outs
  rw [List.take_length, List.length_map]

theorem cnt_succ (vo : List Int) (p : List Req) {i : Nat} (hi : i < p.length) : cnt vo p (i + 1) = cnt vo p i + (if sendB vo p[i] = true then 1 else 0) := by
  unfold cnt
  rw [List.take_add_one, List.getElem?_eq_getElem hi, Option.toList_some, List.filter_append, List.length_append]
  congr 1
  rw [List.filter_cons]
  split <;> simp

theorem out_at (vo : List Int) (p : List Req) {i : Nat} (hi : i < p.length) (hs : sendB vo p[i] = true) : ∃ h : cnt vo p i < (outs vo p).length, (outs vo p)[cnt vo p i] = reqM vo p[i] := by
  have e : p.filter (sendB vo) = (p.take i).filter (sendB vo) ++ (p[i] :: (p.drop (i + 1)).filter (sendB vo)) := by
    conv => lhs; rw [← List.take_append_drop i p]
    rw [List.filter_append, List.drop_eq_getElem_cons hi, List.filter_cons, if_pos hs]
  have hl : cnt vo p i < (outs vo p).length := by
    unfold outs cnt
    rw [e, List.length_map, List.length_append, List.length_cons]
    omega
  refine ⟨hl, ?_⟩
  have : (outs vo p)[cnt vo p i]? = some (reqM vo p[i]) := by
    unfold outs cnt
    rw [e, List.getElem?_map, List.getElem?_append_right (Nat.le_refl _), Nat.sub_self]
    rfl
  rw [List.getElem?_eq_getElem hl] at this
  exact Option.some.inj this

theorem sub_1 {i : Nat} (h0 : 0 < i) (h : i < 2 ^ 63) : iop .sub .i64 (i : Int) 1 = ((i - 1 : Nat) : Int) := by
  rw [sub_i (by omega) (by omega)]; omega

theorem l5a (p : List Req) (h : Begun p) (hl : p.length ≤ 30) (vo : List Int) (n : Int) (vm : LL) : g5L0 FUEL (p.map reqc) n vm (intCells vo) ((outs vo p).map msgc) 0 0 = some true := by
  have hn : p.length < 2 ^ 63 := by omega
  have ho : (outs vo p).length ≤ 30 := by
    unfold outs
    rw [List.length_map]
    have := List.length_filter_le (sendB vo) p
    omega
  have key : ∀ (j i fuel : Nat), p.length = i + j → j < fuel → g5L0 fuel (p.map reqc) n vm (intCells vo) ((outs vo p).map msgc) ((cnt vo p i : Nat) : Int) (i : Int) = some true := by
    intro j
    induction j with
    | zero =>
      intro i fuel hj hf
      obtain ⟨q, rfl⟩ : ∃ q, fuel = q + 1 := ⟨fuel - 1, by omega⟩
      have : i = p.length := by omega
      subst this
      rw [g5L0_eq, List.length_map, if_neg (lss_f (Nat.le_refl _)), List.length_map, cnt_end, if_pos (by simp [cop]), s7]
      rfl
    | succ j ih =>
      intro i fuel hj hf
      obtain ⟨q, rfl⟩ : ∃ q, fuel = q + 1 := ⟨fuel - 1, by omega⟩
      have hi : i < p.length := by omega
      have hio : (intCells vo).length = vo.length := by simp [intCells]
      obtain ⟨op, reg, he, h1, h2, h3⟩ := h.shape p[i] (List.getElem_mem hi)
      have hreg : p[i].region = reg := by rw [he]; rfl
      have ihA : ∀ (hs : ¬ reg < vo.length), g5L0 q (p.map reqc) n vm (intCells vo) ((outs vo p).map msgc) ((cnt vo p i : Nat) : Int) ((i + 1 : Nat) : Int) = some true := by
        intro hs
        have e1 : cnt vo p (i + 1) = cnt vo p i := by
          rw [cnt_succ vo p hi, if_neg (by simp [sendB, hreg]; omega)]; rfl
        rw [← e1]
        exact ih (i + 1) q (by omega) (by omega)
      have ihB : ∀ (hs : reg < vo.length), g5L0 q (p.map reqc) n vm (intCells vo) ((outs vo p).map msgc) ((cnt vo p i + 1 : Nat) : Int) ((i + 1 : Nat) : Int) = some true := by
        intro hs
        have := cnt_succ vo p hi
        rw [if_pos (by simp [sendB, hreg]; omega)] at this
        rw [← this]
        exact ih (i + 1) q (by omega) (by omega)
      have body : ∀ (hs : reg < vo.length), ∃ hc : cnt vo p i < (outs vo p).length, (outs vo p)[cnt vo p i] = reqM vo p[i] := fun hs => out_at vo p hi (by simp [sendB, hreg]; omega)
      have hpl : p[i].src.path.length < 2 ^ 63 := by rw [he]; simp [clm, noNode]
      rw [g5L0_eq, List.length_map, if_pos (lss_t hi)]
      refine ite_goal (fun h0 => ?_) fun h0 => ?_
      · simp only [CQ] at h0
        have hi1 : i - 1 < p.length := by omega
        refine (elem_reqs hi _).trans ?_
        rw [sub_1 (by omega) (by omega)]
        refine (elem_reqs hi1 _).trans ?_
        have hasc : p[i - 1].id.op < p[i].id.op := by
          have := List.pairwise_iff_getElem.1 h.asc (i - 1) i hi1 hi (by omega)
          exact this
        refine (if_neg (by simp only [reqV, CQ]; omega)).trans ?_
        refine (elem_reqs hi _).trans ?_
        by_cases hs : reg < vo.length
        · obtain ⟨hc, hout⟩ := body hs
          refine (if_neg (by simp only [reqV, d2, d4, d8, CQ]; rw [hio, hreg]; omega)).trans ?_
          refine (if_neg (by simp only [List.length_map, CQ]; omega)).trans ?_
          refine (elem_msgs hc _).trans ?_
          rw [hout]
          refine (if_neg (by simp [msgT, reqM, cop])).trans ?_
          refine (elem_msgs hc _).trans ?_
          refine (elem_reqs hi _).trans ?_
          rw [hout]
          refine (owner_at (z := p[i].region) (by rw [hreg]; exact h3) (by rw [hreg]; exact hs) _).trans ?_
          refine (if_neg (by simp [msgT, reqM, cop])).trans ?_
          refine (elem_msgs hc _).trans ?_
          refine (elem_reqs hi _).trans ?_
          rw [hout]
          simp only [msgT, reqV, d2, d4, d8, d16]
          rw [s21 (reqM vo p[i]).req p[i] hpl hpl, Option.bind_some]
          refine (if_neg (by rw [show (reqM vo p[i]).req = p[i] from rfl, sameR_refl]; decide)).trans ?_
          rw [inc_i hc (by omega), inc_i hi hn]
          exact ihB hs
        · refine (if_pos (by simp only [reqV, d2, d4, d8, CQ]; rw [hio, hreg]; omega)).trans ?_
          rw [inc_i hi hn]
          exact ihA hs
      · refine (elem_reqs hi _).trans ?_
        by_cases hs : reg < vo.length
        · obtain ⟨hc, hout⟩ := body hs
          refine (if_neg (by simp only [reqV, d2, d4, d8, CQ]; rw [hio, hreg]; omega)).trans ?_
          refine (if_neg (by simp only [List.length_map, CQ]; omega)).trans ?_
          refine (elem_msgs hc _).trans ?_
          rw [hout]
          refine (if_neg (by simp [msgT, reqM, cop])).trans ?_
          refine (elem_msgs hc _).trans ?_
          refine (elem_reqs hi _).trans ?_
          rw [hout]
          refine (owner_at (z := p[i].region) (by rw [hreg]; exact h3) (by rw [hreg]; exact hs) _).trans ?_
          refine (if_neg (by simp [msgT, reqM, cop])).trans ?_
          refine (elem_msgs hc _).trans ?_
          refine (elem_reqs hi _).trans ?_
          rw [hout]
          simp only [msgT, reqV, d2, d4, d8, d16]
          rw [s21 (reqM vo p[i]).req p[i] hpl hpl, Option.bind_some]
          refine (if_neg (by rw [show (reqM vo p[i]).req = p[i] from rfl, sameR_refl]; decide)).trans ?_
          rw [inc_i hc (by omega), inc_i hi hn]
          exact ihB hs
        · refine (if_pos (by simp only [reqV, d2, d4, d8, CQ]; rw [hio, hreg]; omega)).trans ?_
          rw [inc_i hi hn]
          exact ihA hs
  have := key p.length 0 FUEL (by omega) (by have := fuel63 hn; omega)
  exact this

theorem zcells : (List.replicate (Int.toNat 3) [AV.val (.int .i64 0), AV.val (.int .i64 0), AV.val (.int .i64 0), AV.slice false 3 ([] : LL), AV.val (.int .i64 0), AV.val (.int .i64 0), AV.val (.int .i64 0), AV.val (.int .i64 0), AV.val (.int .i64 0), AV.val (.int .i64 0), AV.val (.bool false), AV.val (.int .i64 0), AV.val (.int .i64 0), AV.val (.int .i64 0), AV.val (.int .i64 0)] : LL) = slots3.map slotc := rfl

theorem s8c (p : List Req) (hp : Few p) (op reg : Int) : g8 (slots3.map slotc) (p.map reqc) (clm op reg).id.core (clm op reg).id.op (clm op reg).id.part (clm op reg).call.kind (clm op reg).call.slot (clm op reg).call.dest (clm op reg).call.core (clm op reg).call.mask (clm op reg).call.object (clm op reg).call.bits (clm op reg).call.level (clm op reg).call.offset (clm op reg).call.count (clm op reg).call.index (clm op reg).call.addr (clm op reg).region (clm op reg).width (clm op reg).src.id.core (clm op reg).src.id.op (clm op reg).src.id.part (idCells (clm op reg).src.path) (clm op reg).src.cap.kind (clm op reg).src.cap.base (clm op reg).src.cap.bits (clm op reg).src.cap.rights (clm op reg).src.cap.width (clm op reg).src.cap.level (clm op reg).src.cap.device (intCells [1]) = some (beginc (beginS slots3 p (clm op reg) [1])) :=
  s8 slots3 few3 p hp (clm op reg) (by simp [clm, noNode]) [1] (by decide)

theorem l5b (x : List Int) (hx : x.length < 2 ^ 63) (vo : List Int) : ∀ (j i fuel : Nat) (p : List Req), 30 ≤ i + j → j < fuel → p.length ≤ i → i ≤ 30 → Begun p → g5L1 fuel (intCells x) (p.map reqc) 0 ([] : LL) (intCells vo) (p.length : Int) (i : Int) = some true := by
  have hxl : (intCells x).length = x.length := by simp [intCells]
  have fin : ∀ (p : List Req), p.length ≤ 30 → Begun p → ((g10 (p.map reqc)).bind fun (r7 : LL) => (g16 r7 0 ([] : LL) (intCells vo)).bind fun (r8 : LL) => g5L0 FUEL (p.map reqc) 0 ([] : LL) (intCells vo) r8 0 0) = some true := by
    intro p hl hb
    have hf := begun_few hb hl
    have h16 : g16 (p.map reqc) 0 ([] : LL) (intCells vo) = some (p.flatMap (sendF vo)) := s16 p hf 0 [] vo
    rw [s10 p hf, Option.bind_some, h16, Option.bind_some, send_msgs]
    exact l5a p hb hl vo 0 []
  intro j
  induction j with
  | zero =>
    intro i fuel p hj hf hpi hi30 hb
    obtain ⟨q, rfl⟩ : ∃ q, fuel = q + 1 := ⟨fuel - 1, by omega⟩
    rw [g5L1_eq, hxl]
    refine ite_goal (fun _ => ?_) fun _ => fin p (by omega) hb
    refine ite_goal (fun h => ?_) fun _ => fin p (by omega) hb
    simp only [CQ] at h
    omega
  | succ j ih =>
    intro i fuel p hj hf hpi hi30 hb
    obtain ⟨q, rfl⟩ : ∃ q, fuel = q + 1 := ⟨fuel - 1, by omega⟩
    rw [g5L1_eq, hxl]
    refine ite_goal (fun h1 => ?_) fun _ => fin p (by omega) hb
    refine ite_goal (fun h2 => ?_) fun _ => fin p (by omega) hb
    simp only [CQ] at h1 h2
    have hi : i < x.length := by omega
    have hf' := begun_few hb (by omega)
    refine (elem_ints hi _).trans ?_
    rw [s18 _ (by omega) (by omega), Option.bind_some, s19, Option.bind_some]
    refine (elem_ints hi _).trans ?_
    refine (reqK_pos (by omega) _).trans ?_
    rw [s18 _ (by omega) (by omega), Option.bind_some]
    have hop := place_lt x[i] (n := 60) (by omega)
    have hrg := place_lt (iop .quo .i64 x[i] 60) (n := 4) (by omega)
    have hadd : iop .add .i64 1 (place x[i] 60) = 1 + place x[i] 60 := add_i (by omega) (by omega)
    rw [hadd]
    obtain ⟨op, hope⟩ : ∃ op, op = 1 + place x[i] 60 := ⟨_, rfl⟩
    obtain ⟨rg, hrge⟩ : ∃ rg, rg = place (iop .quo .i64 x[i] 60) 4 := ⟨_, rfl⟩
    rw [← hope, ← hrge]
    have h20 : g20 (p.map reqc) (reqV (clm op 0)).1 (reqV (clm op 0)).2.1 (reqV (clm op 0)).2.2.1 = some (hitZ p.length (fst' (idIs (clm op rg).id) p)) := s20 p (by omega) (clm op rg).id
    refine (congrArg (fun o => Option.bind o _) h20).trans ?_
    rw [Option.bind_some]
    refine (reqK_pos ?_ _).trans ?_
    · unfold makeP roomMax
      decide
    refine (reqK_pos (by omega) _).trans ?_
    refine (reqK_pos (by omega) _).trans ?_
    rw [s10 p hf', Option.bind_some]
    have h8 := s8c p hf' op rg
    refine (congrArg (fun o => Option.bind o _) h8).trans ?_
    rw [Option.bind_some, hitZ_geq]
    have h3r := reserve3 op (by omega) (by omega)
    refine ite_goal (fun hk => ?_) fun hk => ?_
    · have hk' : idIn (clm op rg).id p = true := hk
      have e : beginS slots3 p (clm op rg) [1] = ([], [], 1) := by rw [beginS, if_pos hk']
      rw [e]
      refine (if_neg (by simp [beginc, cop])).trans ?_
      rw [inc_i (n := 31) (by omega) (by omega)]
      exact ih (i + 1) q p (by omega) (by omega) (by omega) (by omega) hb
    · have hk' : ¬ idIn (clm op rg).id p = true := hk
      have e : beginS slots3 p (clm op rg) [1] = ((reserve slots3 [1] op).1, insR p (clm op rg) (posR p (clm op rg)), 0) := by
        rw [beginS, if_neg hk', if_neg (by show ¬ (reserve slots3 [1] op).2 ≠ 0; rw [h3r]; simp)]
        rfl
      have hln := ins_len p (clm op rg) (posR p (clm op rg)) (fst_le _ p)
      rw [e]
      refine (if_neg (by simp [beginc, cop])).trans ?_
      have hpl1 : iop .add .i64 (p.length : Int) 1 = ((insR p (clm op rg) (posR p (clm op rg))).length : Int) := by
        rw [add_i (by omega) (by omega), hln]; omega
      refine (if_neg (by rw [hpl1]; simp [beginc, cop])).trans ?_
      rw [hpl1, inc_i (n := 31) (by omega) (by omega)]
      exact ih (i + 1) q (insR p (clm op rg) (posR p (clm op rg))) (by omega) (by omega) (by omega) (by omega) (begun_ins hb (by omega) (by omega) (by omega) hk')

theorem s5 (x y : List Int) (hx : x.length < 2 ^ 63) (hy : y.length < 2 ^ 63) : g5 (intCells x) (intCells y) = some true := by
  have hyl : (intCells y).length = y.length := by simp [intCells]
  rw [g5_eq]
  refine ite_goal (fun _ => by rw [s7]; rfl) fun h => ?_
  simp only [CQ, hyl] at h
  have key : ∀ (j i fuel : Nat) (vo : List Int), y.length = i + j → j < fuel → vo.length = i → g5L2 fuel (intCells x) (intCells y) ([] : LL) 0 ([] : LL) (intCells vo) (i : Int) = some true := by
    intro j
    induction j with
    | zero =>
      intro i fuel vo hj hf hv
      obtain ⟨q, rfl⟩ : ∃ q, fuel = q + 1 := ⟨fuel - 1, by omega⟩
      rw [g5L2_eq, hyl, if_neg (lss_f (by omega))]
      exact l5b x hx vo 30 0 FUEL [] (by omega) (by decide) (by simp) (by omega) ⟨by simp, List.Pairwise.nil⟩
    | succ j ih =>
      intro i fuel vo hj hf hv
      obtain ⟨q, rfl⟩ : ∃ q, fuel = q + 1 := ⟨fuel - 1, by omega⟩
      have hi : i < y.length := by omega
      have hvl : (intCells vo).length = vo.length := by simp [intCells]
      rw [g5L2_eq, hyl, if_pos (lss_t hi)]
      refine (reqK_pos (room_small (by rw [hvl]; simp; omega) (by omega)) _).trans ?_
      refine (elem_ints hi _).trans ?_
      rw [s18 _ (by omega) (by omega), Option.bind_some]
      refine (reqK_pos (room_small (by rw [hvl]; simp; omega) (by omega)) _).trans ?_
      rw [inc_i hi hy]
      have := ih (i + 1) q (vo ++ [place y[i] 32]) (by omega) (by omega) (by simp; omega)
      rw [← this]
      refine congrArg (fun v => g5L2 q (intCells x) (intCells y) ([] : LL) 0 ([] : LL) v ((i + 1 : Nat) : Int)) ?_
      simp [intCells, i64c]
  exact key y.length 0 FUEL [] (by omega) (by have := fuel63 hy; omega) rfl

end Go.Proofs.YtmgfkjonkdfedaaGreat
end
