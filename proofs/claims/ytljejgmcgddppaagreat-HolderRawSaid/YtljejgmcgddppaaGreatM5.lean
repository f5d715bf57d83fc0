/- End23, H11a, H11b, H12a, H12d, H18a, H18b, H18c, H18d, H18e, H18f, H18g, H18h, H18i: texts of the proof, put together. -/
import Derived.Test.YtljejgmcgddppaaGreatRows
import Derived.Test.YtljejgmcgddppaaGreatChecked
import Derived.Test.YtljejgmcgddppaaGreatM4
import Derived.JoinedOf
import Derived.JoinedAt
import Derived.RowKit3
import Derived.KernelRfl
import Derived.Test.YtljejgmcgddppaaGreatF23e

section
namespace Go.Proofs.YtljejgmcgddppaaGreat
open Go Go.AM
set_option maxRecDepth 100000
theorem behind : ∃ ws, behindMainWord (wordsSigns Tryz.prog.initOrder.toList) = "cut".toList :: ws := by
 have h : Tryz.prog.initOrder.toList = _ := String.toList_ofList (l := _)
 rw [h]
 exact behind_words (by kernel_rfl) (by kernel_rfl) (by kernel_rfl) (by kernel_rfl) (by kernel_rfl) (by kernel_rfl)
theorem enters : Tryz.prog.mayEnter = true := behind.elim fun _ h => Go.AM.enters_of h (by kernel_rfl) (by kernel_rfl) (by kernel_rfl)
theorem lifts : Tryz.prog.liftsFinal = false := behind.elim fun _ h => Go.AM.final_of h
theorem makeIs : Tryz.prog.make = some .cut := behind.elim fun _ h => Go.AM.make_of h
theorem laid : laidOutB Tryz.prog = true := by kernel_rfl
theorem ownKnobOk : ownKnob Tryz.prog.godebug = none := by kernel_rfl
theorem ty_int {d : Nat} {cs : List AV} (h : TyR Tryz.prog (d + 1) 3 cs) : ∃ z, cs = [I z] := by
 simp only [TyR, Tryz.underlying3] at h
 obtain ⟨z, h, _⟩ := h
 exact ⟨z, h⟩
theorem ty_bool {d : Nat} {cs : List AV} (h : TyR Tryz.prog (d + 1) 4 cs) : ∃ z, cs = [B z] := by
 simp only [TyR, Tryz.underlying4] at h
 exact h
theorem ty_cap {d : Nat} {cs : List AV} (h : TyR Tryz.prog (d + 2) 42 cs) : ∃ k b s r w l dv, cs = [I k, I b, I s, I r, I w, I l, B dv] := by
 rw [TyR] at h
 simp only [Tryz.underlying42] at h
 obtain ⟨ps, rfl, hl, hp⟩ := h
 obtain ⟨p0, p1, p2, p3, p4, p5, p6, rfl⟩ : ∃ p0 p1 p2 p3 p4 p5 p6, ps = [p0, p1, p2, p3, p4, p5, p6] := by
  match ps, hl with
  | [p0, p1, p2, p3, p4, p5, p6], _ => exact ⟨p0, p1, p2, p3, p4, p5, p6, rfl⟩
 obtain ⟨k, rfl⟩ := ty_int (hp 0 _ _ rfl rfl)
 obtain ⟨b, rfl⟩ := ty_int (hp 1 _ _ rfl rfl)
 obtain ⟨s, rfl⟩ := ty_int (hp 2 _ _ rfl rfl)
 obtain ⟨r, rfl⟩ := ty_int (hp 3 _ _ rfl rfl)
 obtain ⟨w, rfl⟩ := ty_int (hp 4 _ _ rfl rfl)
 obtain ⟨l, rfl⟩ := ty_int (hp 5 _ _ rfl rfl)
 obtain ⟨dv, rfl⟩ := ty_bool (hp 6 _ _ rfl rfl)
 exact ⟨k, b, s, r, w, l, dv, rfl⟩
theorem arg_int {x : AV} (h : ArgTy Tryz.prog 12 3 x) : ∃ z, x = I z := by
 simp only [ArgTy, Tryz.underlying3] at h
 obtain ⟨z, hz⟩ := ty_int h.2
 exact ⟨z, by simpa using hz⟩
def i64c (z : Int) : List AV := [I z]
def intCells (l : List Int) : List (List AV) := l.map i64c
structure Id where
 core : Int
 op : Int
 part : Int
 deriving DecidableEq
def idc (i : Id) : List AV := [I i.core, I i.op, I i.part]
def idCells (l : List Id) : List (List AV) := l.map idc
theorem list_lift {α β : Type} {f : α → β} {p : α → Prop} : ∀ (xs : List β), (∀ x ∈ xs, ∃ a, x = f a ∧ p a) → ∃ l : List α, xs = l.map f ∧ ∀ a ∈ l, p a
 | [], _ => ⟨[], rfl, by simp⟩
 | x :: xs, h => by
  obtain ⟨a, h1, h2⟩ := h x (by simp)
  obtain ⟨l, h3, h4⟩ := list_lift xs fun y hy => h y (by simp [hy])
  refine ⟨a :: l, by rw [h1, h3]; rfl, fun b hb => ?_⟩
  rcases List.mem_cons.1 hb with rfl | hb
  ·exact h2
  ·exact h4 b hb
theorem cells3 : Tryz.prog.cellsOf 3 = 1 := by kernel_rfl
theorem cells37 : Tryz.prog.cellsOf 37 = 3 := by kernel_rfl
theorem ty_id {d : Nat} {cs : List AV} (h : TyR Tryz.prog (d + 2) 37 cs) : ∃ i : Id, cs = idc i := by
 rw [TyR] at h
 simp only [Tryz.underlying37] at h
 obtain ⟨ps, rfl, hl, hp⟩ := h
 obtain ⟨p0, p1, p2, rfl⟩ : ∃ p0 p1 p2, ps = [p0, p1, p2] := by
  match ps, hl with
  | [p0, p1, p2], _ => exact ⟨p0, p1, p2, rfl⟩
 obtain ⟨k, rfl⟩ := ty_int (hp 0 _ _ rfl rfl)
 obtain ⟨b, rfl⟩ := ty_int (hp 1 _ _ rfl rfl)
 obtain ⟨s, rfl⟩ := ty_int (hp 2 _ _ rfl rfl)
 exact ⟨⟨k, b, s⟩, rfl⟩
theorem ty_ids {d : Nat} {cs : List AV} (h : TyR Tryz.prog (d + 3) 32 cs) : ∃ l, cs = [.slice false 3 (idCells l)] ∧ l.length ≤ maxLen := by
 rw [TyR] at h
 simp only [Tryz.underlying32, cells37] at h
 obtain ⟨xs, h1, h2, h3⟩ := h
 obtain ⟨l, rfl, h5⟩ := list_lift (f := idc) (p := fun _ => True) xs fun y hy => by
  obtain ⟨i, hi⟩ := ty_id (h3 y hy)
  exact ⟨i, hi, trivial⟩
 exact ⟨l, h1, by simpa using h2⟩
theorem arg_id {x : AV} (h : ArgTy Tryz.prog 12 37 x) : ∃ a b c, x = .agg [I a, I b, I c] := by
 simp only [ArgTy, Tryz.underlying37] at h
 obtain ⟨cs, rfl, h⟩ := h
 obtain ⟨i, rfl⟩ := ty_id h
 exact ⟨i.core, i.op, i.part, rfl⟩
def parTs : List TypeId := [3, 22, 23, 28, 37, 54]
theorem parOk (t : TypeId) (h : parTs.contains t = true) : fineB Tryz.prog 12 t = true ∧ t < Tryz.prog.types.size ∧ Tryz.prog.readableRec t = true := by
 have h2 : parTs.all (fun t => fineB Tryz.prog 12 t && decide (t < Tryz.prog.types.size) && Tryz.prog.readableRec t) = true := by kernel_rfl
 rw [List.all_eq_true] at h2
 have := h2 t (by simpa using h)
 simpa [and_assoc] using this
end Go.Proofs.YtljejgmcgddppaaGreat
end

section
namespace Go.Proofs.YtljejgmcgddppaaGreat
open Go Go.AM
set_option linter.unusedSimpArgs false
set_option linter.unusedVariables false
set_option maxRecDepth 100000
def sizeOk (k b : Int) : Bool := decide ((k = 1 ∧ 6 ≤ b ∧ b ≤ 40) ∨ (k = 2 ∧ 12 ≤ b ∧ b ≤ 40) ∨ (k = 3 ∧ b = 12) ∨ (k = 4 ∧ b = 6) ∨ (k = 5 ∧ b = 10) ∨ (k = 6 ∧ b = 16))
theorem s164 (k b : Int) : g164 k b = some (sizeOk k b) := by
 rw [g164_eq]
 repeat' split
 all_goals (refine congrArg some ?_; rw [bool_iff]; simp only [sizeOk, CQ] at *; omega)
def fixedOf (k : Int) : Int := if k = 3 then 12 else if k = 4 then 6 else if k = 5 then 10 else if k = 6 then 16 else 0
theorem s143 (k : Int) : g143 k = some (fixedOf k) := by
 rw [g143_eq]
 simp only [CQ, fixedOf]
 repeat' split
 all_goals first | rfl | omega
theorem s85 (k b : Int) : g85 k b = some (sizeOk k b) := by
 rw [g85_eq]
 simp only [s143, Option.bind_some]
 repeat' split
 all_goals (refine congrArg some ?_; rw [bool_iff]; simp only [sizeOk, CQ] at *; first | omega | (rcases (by omega : k = 3 ∨ k = 4 ∨ k = 5 ∨ k = 6) with rfl | rfl | rfl | rfl <;> simp [fixedOf]))
def formOk (w l : Int) : Bool := decide ((w = 32 ∧ 0 ≤ l ∧ l ≤ 1) ∨ (w = 39 ∧ 0 ≤ l ∧ l ≤ 2))
theorem s167 (w l : Int) : g167 w l = some (formOk w l) := by
 rw [g167_eq]
 repeat' split
 all_goals (refine congrArg some ?_; rw [bool_iff]; simp only [formOk, CQ] at *; omega)
theorem s86 (w l : Int) : g86 w l = some (formOk w l) := by
 rw [g86_eq]
 repeat' split
 all_goals (refine congrArg some ?_; rw [bool_iff]; simp only [formOk, CQ] at *; omega)
def rngOk (a b : Int) : Bool := decide (6 ≤ b ∧ b ≤ 40 ∧ 0 ≤ a ∧ a % 2 ^ b.toNat = 0 ∧ a + 2 ^ b.toNat ≤ 1099511627776)
theorem pow_hi {b : Int} (h : b ≤ 40) : (2 : Int) ^ b.toNat ≤ 1099511627776 := by
 have := pow_le2 (m := b.toNat) (n := 40) (by omega)
 have e : (2 : Int) ^ 40 = 1099511627776 := by decide
 omega
theorem rem_pow {a : Int} {n : Nat} (h : 0 ≤ a) : iop .rem .i64 a (2 ^ n) = a % 2 ^ n := Int.tmod_eq_emod_of_nonneg h
theorem sub_hi {b : Int} (h : b ≤ 40) : iop .sub .i64 1099511627776 (2 ^ b.toNat) = 1099511627776 - 2 ^ b.toNat := by
 have := pow_hi h
 have := pow_pos2 b.toNat
 exact wrap_of (by omega) (by omega)
theorem s165 (a b : Int) : g165 a b = some (rngOk a b) := by
 have hp := pow_pos2 b.toNat
 rw [g165_eq]
 by_cases h1 : 6 ≤ b ∧ b ≤ 40 ∧ 0 ≤ a
 ·obtain ⟨h1, h2, h3⟩ := h1
  have hs : iop .shl .i64 1 b = 2 ^ b.toNat := shl1 (by omega)
  have hr : reqK ((0 : Int) ≤ b) = fun (x : Option Bool) => x := funext fun x => reqK_pos (by omega) x
  have hn : reqK (((2 : Int) ^ b.toNat) ≠ 0) = fun (x : Option Bool) => x := funext fun x => reqK_pos (by omega) x
  simp only [hs, hr, hn, rem_pow h3, sub_hi h2]
  repeat' split
  all_goals (refine congrArg some ?_; rw [bool_iff]; simp only [rngOk, CQ] at *; omega)
 ·have hf : rngOk a b = false := by simp only [rngOk, decide_eq_false_iff_not]; omega
  rw [hf]
  repeat' split
  all_goals first | rfl | (exfalso; simp only [CQ] at *; omega)
theorem s139 (a b : Int) : g139 a b = some (rngOk a b) := by
 have hp := pow_pos2 b.toNat
 rw [g139_eq]
 by_cases h1 : 6 ≤ b ∧ b ≤ 40 ∧ 0 ≤ a
 ·obtain ⟨h1, h2, h3⟩ := h1
  have hw : IntKind.wrap .u64 b = b := wrapu_of (by omega) (by omega)
  have hs : iop .shl .i64 1 b = 2 ^ b.toNat := shl1 (by omega)
  have hr : reqK ((0 : Int) ≤ b) = fun (x : Option Bool) => x := funext fun x => reqK_pos (by omega) x
  have hn : reqK (((2 : Int) ^ b.toNat) ≠ 0) = fun (x : Option Bool) => x := funext fun x => reqK_pos (by omega) x
  have h40 := pow_hi h2
  simp only [hw, hs, hr, hn, rem_pow h3]
  repeat' split
  all_goals (refine congrArg some ?_; rw [bool_iff]; simp only [rngOk, CQ] at *; first | omega | (rw [add_i (by omega) (by omega)] at *; omega))
 ·have hf : rngOk a b = false := by simp only [rngOk, decide_eq_false_iff_not]; omega
  rw [hf]
  repeat' split
  all_goals first | rfl | (exfalso; simp only [CQ] at *; omega)
structure Cap where
 kind : Int
 base : Int
 bits : Int
 rights : Int
 width : Int
 level : Int
 device : Bool
theorem s166 (k b s r w l : Int) (d : Bool) : g166 k b s r w l d = some (b, s) := g166_eq ..
theorem s81 (k b s r w l : Int) (d : Bool) : g81 k b s r w l d = some (b, s) := g81_eq ..
def capOk (c : Cap) : Bool := sizeOk c.kind c.bits && rngOk c.base c.bits && decide (0 ≤ c.rights ∧ c.rights ≤ 7) && (if c.kind = 3 then formOk c.width c.level else decide (c.width = 0 ∧ c.level = 0)) && (!c.device || decide (c.kind = 1) || decide (c.kind = 2))
theorem s150 (k b s r w l : Int) (d : Bool) : g150 k b s r w l d = some (capOk ⟨k, b, s, r, w, l, d⟩) := by
 rw [g150_eq]
 simp only [s164, s166, s165, s167, Option.bind_some]
 repeat' split
 all_goals (refine congrArg some ?_; rw [bool_iff]; simp only [capOk, CQ] at *; grind)
theorem s84 (k b s r w l : Int) (d : Bool) : g84 k b s r w l d = some (capOk ⟨k, b, s, r, w, l, d⟩) := by
 rw [g84_eq]
 simp only [s85, s81, s139, s86, Option.bind_some]
 repeat' split
 all_goals (refine congrArg some ?_; rw [bool_iff]; simp only [capOk, CQ] at *; grind)
end Go.Proofs.YtljejgmcgddppaaGreat
end

section
namespace Go.Proofs.YtljejgmcgddppaaGreat
open Go Go.AM
set_option linter.unusedSimpArgs false
set_option linter.unusedVariables false
set_option maxRecDepth 100000
theorem fuel_lt {n : Nat} (h : n < 2 ^ 64) : n < FUEL := by
 have : FUEL = 1208925819614629174706176 := rfl
 omega
theorem fuel6 : ∃ f, FUEL = f + 1 + 1 + 1 + 1 + 1 + 1 := ⟨FUEL - 6, by decide⟩
end Go.Proofs.YtljejgmcgddppaaGreat
end

section
namespace Go.Proofs.YtljejgmcgddppaaGreat
open Go Go.AM
set_option linter.unusedSimpArgs false
set_option linter.unusedVariables false
set_option maxRecDepth 100000
abbrev idSh : List Sh := [.int .i64, .int .i64, .int .i64]
def idOk (i : Id) : Bool := decide (0 ≤ i.core ∧ i.core < 32 ∧ 1 ≤ i.op ∧ i.op ≤ 1073741824 ∧ 0 ≤ i.part ∧ i.part < 8)
theorem s120 (a b c : Int) : g120 a b c = some (idOk ⟨a, b, c⟩) := by
 rw [g120_eq]
 repeat' split
 all_goals (refine congrArg some ?_; rw [bool_iff]; simp only [idOk, CQ] at *; omega)
theorem s190 (a : Int) : g190 a = some false := by
 rw [g190_eq]
 simp [cop]
def cmpI (a b : Int) : Int := if a < b then -1 else if b < a then 1 else 0
theorem s189 (a b : Int) : g189 a b = some (cmpI a b) := by
 rw [g189_eq]
 simp only [s190, Option.bind_some, Bool.false_eq_true, if_false]
 by_cases h1 : a < b
 ·rw [if_pos (by simp only [CQ]; omega), cmpI, if_pos h1]
 ·by_cases h2 : b < a
  ·rw [if_neg (by simp only [CQ]; omega), if_pos (by simp only [CQ]; omega), cmpI, if_neg h1, if_pos h2]
  ·rw [if_neg (by simp only [CQ]; omega), if_neg (by simp only [CQ]; omega), cmpI, if_neg h1, if_neg h2]
def firstNZ (x y z : Int) : Int := if x ≠ 0 then x else if y ≠ 0 then y else z
theorem s188 (x y z : Int) : g188 (((([] : List (List AV)) ++ [[AV.val (.int .i64 x)]]) ++ [[AV.val (.int .i64 y)]]) ++ [[AV.val (.int .i64 z)]]) = some (firstNZ x y z) := by
 obtain ⟨f, hf⟩ := fuel6
 have e : (((([] : List (List AV)) ++ [[AV.val (.int .i64 x)]]) ++ [[AV.val (.int .i64 y)]]) ++ [[AV.val (.int .i64 z)]]) = [i64c x, i64c y, i64c z] := rfl
 have e1 : iop .add .i64 0 1 = 1 := by decide
 have e2 : iop .add .i64 1 1 = 2 := by decide
 have e3 : iop .add .i64 2 1 = 3 := by decide
 have hl : (([i64c x, i64c y, i64c z] : List (List AV)).length : Int) = 3 := rfl
 rw [g188_eq, e, hf, hl]
 rw [g188L0_eq, if_pos (by decide), elemK_at (sh := [.int .i64]) (cs := i64c x) (r := x) _ (by decide) rfl rfl]
 by_cases hx : x = 0
 ·rw [if_neg (by simp only [CQ]; omega), e1, g188L0_eq, if_pos (by decide), elemK_at (sh := [.int .i64]) (cs := i64c y) (r := y) _ (by decide) rfl rfl]
  by_cases hy : y = 0
  ·rw [if_neg (by simp only [CQ]; omega), e2, g188L0_eq, if_pos (by decide), elemK_at (sh := [.int .i64]) (cs := i64c z) (r := z) _ (by decide) rfl rfl]
   by_cases hz : z = 0
   ·rw [if_neg (by simp only [CQ]; omega), e3, g188L0_eq, if_neg (by decide)]
    simp [firstNZ, hx, hy, hz]
   ·rw [if_pos (by simp only [CQ]; omega)]
    simp [firstNZ, hx, hy]
  ·rw [if_pos (by simp only [CQ]; omega)]
   simp [firstNZ, hx, hy]
 ·rw [if_pos (by simp only [CQ]; omega)]
  simp [firstNZ, hx]
theorem s185 (a b c d e f : Int) : g185 a b c d e f = some (firstNZ (cmpI a d) (cmpI b e) (cmpI c f)) := by
 rw [g185_eq]
 simp only [s189, Option.bind_some, s188]
def idLt (a b c d e f : Int) : Bool := decide (a < d ∨ (a = d ∧ (b < e ∨ (b = e ∧ c < f))))
theorem s173 (a b c d e f : Int) : g173 a b c d e f = some (idLt a b c d e f) := by
 rw [g173_eq, s185, Option.bind_some]
 refine congrArg some ?_
 rw [bool_iff]
 simp only [idLt, CQ, cmpI, firstNZ]
 repeat' split
 all_goals omega
theorem ids_len (l : List Id) : (idCells l).length = l.length := by simp [idCells]
theorem ids_take (l : List Id) (n : Nat) : (idCells l).take n = idCells (l.take n) := by simp [idCells, List.map_take]
theorem ids_at {l : List Id} {i : Nat} {x : Id} (h : l[i]? = some x) : (idCells l)[i]? = some (idc x) := by simp [idCells, h]
theorem elem_id {γ : Type} {l : List Id} {i : Int} {x : Id} (k : (Int × Int × Int) → Option γ) (h0 : 0 ≤ i) (h : l[i.toNat]? = some x) : elemK (idCells l) i idSh k = k (x.core, x.op, x.part) :=
 elemK_at (sh := idSh) (r := (x.core, x.op, x.part)) k h0 (ids_at h) rfl
theorem id_eqb (a b c d e f : Int) : ((cop .eql a d && (cop .eql b e && (cop .eql c f && true))) = true) ↔ ((⟨a, b, c⟩ : Id) = ⟨d, e, f⟩) := by
 simp only [CQ, Id.mk.injEq, and_true]
theorem l136 {l : List Id} (hl : l.length < 2 ^ 63) (a b c : Int) : ∀ (j i fuel : Nat), l.length = i + j → j < fuel → ∃ r, g136L0 fuel (idCells l) a b c (l.length : Int) i = some r ∧ (0 ≤ r ↔ (⟨a, b, c⟩ : Id) ∈ l.drop i) := by
 intro j
 induction j with
 | zero =>
  intro i fuel h hf
  obtain ⟨f, rfl⟩ : ∃ f, fuel = f + 1 := ⟨fuel - 1, by omega⟩
  refine ⟨-1, by rw [g136L0_eq, if_neg (by simp only [CQ]; omega)], ?_⟩
  rw [List.drop_of_length_le (by omega)]
  simp
 | succ j ih =>
  intro i fuel h hf
  obtain ⟨f, rfl⟩ : ∃ f, fuel = f + 1 := ⟨fuel - 1, by omega⟩
  have hi : i < l.length := by omega
  have hat : l[(i : Int).toNat]? = some l[i] := by simp
  have a4 : iop .add .i64 i 1 = ((i + 1 : Nat) : Int) := by rw [add_i (by omega) (by omega)]; omega
  rw [g136L0_eq, if_pos (by simp only [CQ]; omega), elem_id _ (by omega) hat, a4, List.drop_eq_getElem_cons hi]
  by_cases he : (⟨a, b, c⟩ : Id) = l[i]
  ·refine ⟨i, ?_, ?_⟩
   ·rw [if_pos]
    rw [id_eqb]
    exact he
   ·rw [List.mem_cons]
    exact ⟨fun _ => .inl he, fun _ => by omega⟩
  ·obtain ⟨r, h1, h2⟩ := ih (i + 1) f (by omega) (by omega)
   refine ⟨r, ?_, ?_⟩
   ·rw [if_neg, h1]
    rw [id_eqb]
    exact he
   ·rw [h2, List.mem_cons]
    simp [he]
theorem s76 (l : List Id) (hl : l.length < 2 ^ 63) (a b c : Int) : g76 (idCells l) a b c = some (l.contains ⟨a, b, c⟩) := by
 obtain ⟨r, h1, h2⟩ := l136 hl a b c l.length 0 FUEL (by omega) (fuel_lt (by omega))
 rw [g76_eq, g136_eq, ids_len]
 have h1' : g136L0 FUEL (idCells l) a b c (l.length : Int) 0 = some r := h1
 rw [h1', Option.bind_some]
 refine congrArg some ?_
 rw [bool_iff]
 simp only [CQ, List.contains_iff_mem]
 rw [List.drop_zero] at h2
 exact h2
structure Node where
 id : Id
 path : List Id
 cap : Cap
def pathAt (n : Node) (i : Nat) : Bool := match n.path[i]? with | none => true | some x => idOk x && decide (x ≠ n.id) && !(n.path.take i).contains x
def nodeOk (n : Node) : Bool := idOk n.id && capOk n.cap && decide (n.path.length ≤ 8) && (List.range n.path.length).all (pathAt n)
theorem l116 (n : Node) (hl : n.path.length < 2 ^ 63) : ∀ (j i fuel : Nat), n.path.length = i + j → j < fuel →
  g116L0 fuel n.id.core n.id.op n.id.part (idCells n.path) n.cap.kind n.cap.base n.cap.bits n.cap.rights n.cap.width n.cap.level n.cap.device (idCells n.path) (n.path.length : Int) i = some ((List.range' i j).all (pathAt n)) := by
 intro j
 induction j with
 | zero =>
  intro i fuel h hf
  obtain ⟨f, rfl⟩ : ∃ f, fuel = f + 1 := ⟨fuel - 1, by omega⟩
  rw [g116L0_eq, if_neg (by simp only [CQ]; omega)]
  rfl
 | succ j ih =>
  intro i fuel h hf
  obtain ⟨f, rfl⟩ : ∃ f, fuel = f + 1 := ⟨fuel - 1, by omega⟩
  have hi : i < n.path.length := by omega
  have hat : n.path[(i : Int).toNat]? = some n.path[i] := by simp
  have a4 : iop .add .i64 i 1 = ((i + 1 : Nat) : Int) := by rw [add_i (by omega) (by omega)]; omega
  have hp : pathAt n i = (idOk n.path[i] && decide (n.path[i] ≠ n.id) && !(n.path.take i).contains n.path[i]) := by
   unfold pathAt
   rw [List.getElem?_eq_getElem hi]
  have hlt : (n.path.take i).length < 2 ^ 63 := by rw [List.length_take]; omega
  rw [g116L0_eq, if_pos (by simp only [CQ]; omega), elem_id _ (by omega) hat, a4, List.range'_succ, List.all_cons, hp]
  simp only [s120, Option.bind_some]
  cases h1 : idOk n.path[i] with
  | false => simp
  | true =>
   rw [if_neg (by simp)]
   by_cases h2 : n.path[i] = n.id
   ·rw [if_pos (by rw [id_eqb]; exact h2)]
    simp [h2]
   ·rw [if_neg (by rw [id_eqb]; exact h2), reqK_pos (by omega), reqK_pos (by rw [ids_len]; omega), Int.toNat_natCast, ids_take, s76 _ hlt, Option.bind_some]
    cases h3 : (n.path.take i).contains n.path[i] with
    | true => simp
    | false =>
     rw [if_neg (by simp)]
     have := ih (i + 1) f (by omega) (by omega)
     rw [this]
     simp [h2]
theorem s116 (n : Node) (hl : n.path.length < 2 ^ 63) : g116 n.id.core n.id.op n.id.part (idCells n.path) n.cap.kind n.cap.base n.cap.bits n.cap.rights n.cap.width n.cap.level n.cap.device = some (nodeOk n) := by
 rw [g116_eq]
 simp only [s120, s150, Option.bind_some, ids_len]
 unfold nodeOk
 cases h1 : idOk n.id with
 | false => simp [show (⟨n.id.core, n.id.op, n.id.part⟩ : Id) = n.id from rfl, h1]
 | true =>
  cases h2 : capOk n.cap with
  | false => simp [show (⟨n.id.core, n.id.op, n.id.part⟩ : Id) = n.id from rfl, h1, show (⟨n.cap.kind, n.cap.base, n.cap.bits, n.cap.rights, n.cap.width, n.cap.level, n.cap.device⟩ : Cap) = n.cap from rfl, h2]
  | true =>
   rw [if_neg (by simp), if_neg (by simp)]
   by_cases h3 : n.path.length ≤ 8
   ·rw [if_neg (by simp only [CQ]; omega)]
    have := l116 n hl n.path.length 0 FUEL (by omega) (fuel_lt (by omega))
    have e : (List.range' 0 n.path.length) = List.range n.path.length := (List.range_eq_range' ..).symm
    rw [e] at this
    refine this.trans ?_
    simp [h3]
   ·rw [if_pos (by simp only [CQ]; omega)]
    simp [h3]
end Go.Proofs.YtljejgmcgddppaaGreat
end

section
namespace Go.Proofs.YtljejgmcgddppaaGreat
open Go Go.AM
set_option linter.unusedSimpArgs false
set_option linter.unusedVariables false
set_option maxRecDepth 100000
theorem s88 (a b c : Int) : g88 a b c = some (idOk ⟨a, b, c⟩) := by
 rw [g88_eq]
 repeat' split
 all_goals (refine congrArg some ?_; rw [bool_iff]; simp only [idOk, CQ] at *; omega)
theorem l18 {l : List Id} (hl : l.length < 2 ^ 63) (a b c : Int) : ∀ (j i fuel : Nat), l.length = i + j → j < fuel → g18L0 fuel (idCells l) a b c i = some ((l.drop i).contains ⟨a, b, c⟩) := by
 intro j
 induction j with
 | zero =>
  intro i fuel h hf
  obtain ⟨f, rfl⟩ : ∃ f, fuel = f + 1 := ⟨fuel - 1, by omega⟩
  rw [g18L0_eq, if_neg (by simp only [CQ, ids_len]; omega), List.drop_of_length_le (by omega)]
  rfl
 | succ j ih =>
  intro i fuel h hf
  obtain ⟨f, rfl⟩ : ∃ f, fuel = f + 1 := ⟨fuel - 1, by omega⟩
  have hi : i < l.length := by omega
  have hat : l[(i : Int).toNat]? = some l[i] := by simp
  have a4 : iop .add .i64 i 1 = ((i + 1 : Nat) : Int) := by rw [add_i (by omega) (by omega)]; omega
  rw [g18L0_eq, if_pos (by simp only [CQ, ids_len]; omega), elem_id _ (by omega) hat, a4, List.drop_eq_getElem_cons hi, List.contains_cons]
  by_cases he : l[i] = (⟨a, b, c⟩ : Id)
  ·rw [if_pos (by rw [id_eqb]; exact he)]
   simp [he]
  ·rw [if_neg (by rw [id_eqb]; exact he), ih (i + 1) f (by omega) (by omega)]
   have : ((⟨a, b, c⟩ : Id) == l[i]) = false := by simp; exact fun h => he h.symm
   rw [this, Bool.false_or]
theorem s18 (l : List Id) (hl : l.length < 2 ^ 63) (a b c : Int) : g18 (idCells l) a b c = some (l.contains ⟨a, b, c⟩) := by
 have := l18 hl a b c l.length 0 FUEL (by omega) (fuel_lt (by omega))
 rw [g18_eq]
 exact this
def pathRef (n : Node) (i : Nat) : Bool := match n.path[i]? with | none => true | some x => idOk x && !(n.path.take i).contains x
theorem nodeOk_ref (n : Node) : nodeOk n = (idOk n.id && capOk n.cap && decide (n.path.length ≤ 8) && (!n.path.contains n.id && (List.range n.path.length).all (pathRef n))) := by
 unfold nodeOk
 congr 1
 rw [bool_iff]
 simp only [Bool.and_eq_true, List.all_eq_true, List.mem_range, Bool.not_eq_true', ← Bool.not_eq_true, List.contains_iff_mem]
 constructor
 ·intro h
  refine ⟨fun hc => ?_, fun i hi => ?_⟩
  ·obtain ⟨i, hi⟩ := List.mem_iff_getElem?.1 hc
   have := h i (List.getElem?_eq_some_iff.1 hi).1
   unfold pathAt at this
   rw [hi] at this
   simp at this
  ·have := h i hi
   unfold pathAt at this
   unfold pathRef
   rw [List.getElem?_eq_getElem hi] at this ⊢
   simp only [Bool.and_eq_true] at this ⊢
   exact ⟨this.1.1, this.2⟩
 ·intro ⟨h1, h2⟩ i hi
  have := h2 i hi
  unfold pathRef at this
  unfold pathAt
  rw [List.getElem?_eq_getElem hi] at this ⊢
  simp only [Bool.and_eq_true, decide_eq_true_eq] at this ⊢
  exact ⟨⟨this.1, fun he => h1 (he ▸ List.getElem_mem hi)⟩, this.2⟩
theorem l87 (n : Node) (hl : n.path.length < 2 ^ 63) : ∀ (j i fuel : Nat), n.path.length = i + j → j < fuel →
  g87L0 fuel n.id.core n.id.op n.id.part (idCells n.path) n.cap.kind n.cap.base n.cap.bits n.cap.rights n.cap.width n.cap.level n.cap.device i = some ((List.range' i j).all (pathRef n)) := by
 intro j
 induction j with
 | zero =>
  intro i fuel h hf
  obtain ⟨f, rfl⟩ : ∃ f, fuel = f + 1 := ⟨fuel - 1, by omega⟩
  rw [g87L0_eq, if_neg (by simp only [CQ, ids_len]; omega)]
  rfl
 | succ j ih =>
  intro i fuel h hf
  obtain ⟨f, rfl⟩ : ∃ f, fuel = f + 1 := ⟨fuel - 1, by omega⟩
  have hi : i < n.path.length := by omega
  have hat : n.path[(i : Int).toNat]? = some n.path[i] := by simp
  have a4 : iop .add .i64 i 1 = ((i + 1 : Nat) : Int) := by rw [add_i (by omega) (by omega)]; omega
  have hp : pathRef n i = (idOk n.path[i] && !(n.path.take i).contains n.path[i]) := by
   unfold pathRef
   rw [List.getElem?_eq_getElem hi]
  have hlt : (n.path.take i).length < 2 ^ 63 := by rw [List.length_take]; omega
  rw [g87L0_eq, if_pos (by simp only [CQ, ids_len]; omega), elem_id _ (by omega) hat, a4, List.range'_succ, List.all_cons, hp]
  simp only [s88, Option.bind_some]
  cases h1 : idOk n.path[i] with
  | false => simp
  | true =>
   rw [if_neg (by simp), reqK_pos (by omega), reqK_pos (by rw [ids_len]; omega), elem_id _ (by omega) hat, Int.toNat_natCast, ids_take, s18 _ hlt, Option.bind_some]
   cases h3 : (n.path.take i).contains n.path[i] with
   | true => simp
   | false =>
    rw [if_neg (by simp)]
    have := ih (i + 1) f (by omega) (by omega)
    rw [this]
    simp
theorem s87 (n : Node) (hl : n.path.length < 2 ^ 63) : g87 n.id.core n.id.op n.id.part (idCells n.path) n.cap.kind n.cap.base n.cap.bits n.cap.rights n.cap.width n.cap.level n.cap.device = some (nodeOk n) := by
 rw [g87_eq, nodeOk_ref]
 simp only [s88, s84, Option.bind_some, ids_len, s18 _ hl]
 cases h1 : idOk n.id with
 | false => simp [show (⟨n.id.core, n.id.op, n.id.part⟩ : Id) = n.id from rfl, h1]
 | true =>
  cases h2 : capOk n.cap with
  | false => simp [show (⟨n.id.core, n.id.op, n.id.part⟩ : Id) = n.id from rfl, h1, show (⟨n.cap.kind, n.cap.base, n.cap.bits, n.cap.rights, n.cap.width, n.cap.level, n.cap.device⟩ : Cap) = n.cap from rfl, h2]
  | true =>
   rw [if_neg (by simp), if_neg (by simp)]
   by_cases h3 : n.path.length ≤ 8
   ·rw [if_neg (by simp only [CQ]; omega)]
    cases h4 : n.path.contains n.id with
    | true => simp
    | false =>
     rw [if_neg (by simp)]
     have := l87 n hl n.path.length 0 FUEL (by omega) (fuel_lt (by omega))
     have e : (List.range' 0 n.path.length) = List.range n.path.length := (List.range_eq_range' ..).symm
     rw [e] at this
     refine this.trans ?_
     simp [h3]
   ·rw [if_pos (by simp only [CQ]; omega)]
    simp [h3]
theorem l46 {l m : List Id} (hl : l.length < 2 ^ 63) (hm : l.length = m.length) : ∀ (j i fuel : Nat), l.length = i + j → j < fuel → g46L0 fuel (idCells l) (idCells m) i = some (decide (l.drop i = m.drop i)) := by
 intro j
 induction j with
 | zero =>
  intro i fuel h hf
  obtain ⟨f, rfl⟩ : ∃ f, fuel = f + 1 := ⟨fuel - 1, by omega⟩
  rw [g46L0_eq, if_neg (by simp only [CQ, ids_len]; omega), List.drop_of_length_le (by omega), List.drop_of_length_le (by omega)]
  rfl
 | succ j ih =>
  intro i fuel h hf
  obtain ⟨f, rfl⟩ : ∃ f, fuel = f + 1 := ⟨fuel - 1, by omega⟩
  have hi : i < l.length := by omega
  have hi' : i < m.length := by omega
  have hat : l[(i : Int).toNat]? = some l[i] := by simp
  have hat' : m[(i : Int).toNat]? = some m[i] := by simp
  have a4 : iop .add .i64 i 1 = ((i + 1 : Nat) : Int) := by rw [add_i (by omega) (by omega)]; omega
  rw [g46L0_eq, if_pos (by simp only [CQ, ids_len]; omega), elem_id _ (by omega) hat, elem_id _ (by omega) hat', a4, List.drop_eq_getElem_cons hi, List.drop_eq_getElem_cons hi']
  by_cases he : l[i] = m[i]
  ·rw [if_neg (by rw [Bool.not_eq_true', ← Bool.not_eq_true, id_eqb]; exact fun h => h he), ih (i + 1) f (by omega) (by omega)]
   simp only [he, List.cons.injEq, true_and]
  ·rw [if_pos (by rw [Bool.not_eq_true', ← Bool.not_eq_true, id_eqb]; exact he)]
   simp only [List.cons.injEq, he, false_and, decide_false]
theorem s46 (l m : List Id) (hl : l.length < 2 ^ 63) (hm : m.length < 2 ^ 63) : g46 (idCells l) (idCells m) = some (decide (l = m)) := by
 rw [g46_eq, ids_len, ids_len]
 by_cases h : l.length = m.length
 ·rw [if_neg (by simp only [CQ]; omega)]
  have := l46 hl h l.length 0 FUEL (by omega) (fuel_lt (by omega))
  rw [List.drop_zero, List.drop_zero] at this
  exact this
 ·rw [if_pos (by simp only [CQ]; omega)]
  have : ¬ l = m := fun he => h (by rw [he])
  simp [this]
end Go.Proofs.YtljejgmcgddppaaGreat
end

section
namespace Go.Proofs.YtljejgmcgddppaaGreat
open Go Go.AM
set_option linter.unusedSimpArgs false
set_option linter.unusedVariables false
set_option maxRecDepth 100000
theorem fuel63 {n : Nat} (h : n < 2 ^ 63) : n + 1 < FUEL := by
 have : (2 : Nat) ^ 64 ≤ FUEL := by decide
 omega
theorem inc_i {i n : Nat} (h : i < n) (hn : n < 2 ^ 63) : iop .add .i64 (i : Int) 1 = ((i + 1 : Nat) : Int) := by
 rw [add_i (by omega) (by omega)]; omega
theorem lss_t {i n : Nat} (h : i < n) : (cop .lss (i : Int) (n : Int)) = true := by
 simp only [CQ]; omega
theorem lss_f {i n : Nat} (h : n ≤ i) : ¬ (cop .lss (i : Int) (n : Int)) = true := by
 simp only [CQ]; omega
theorem scan_all {γ : Type} {F : Nat → Int → Option γ} {n : Nat} {fin bad : Option γ} (p : Nat → Bool) (hn : n < 2 ^ 63) (i0 : Nat) (hi0 : i0 ≤ 1)
  (step : ∀ k i : Nat, i0 ≤ i → i < n → F (k + 1) (i : Int) = if p i = true then F k ((i + 1 : Nat) : Int) else bad)
  (last : ∀ k i : Nat, n ≤ i → F (k + 1) (i : Int) = fin) : F FUEL (i0 : Int) = if (List.range' i0 (n - i0)).all p = true then fin else bad := by
 have key : ∀ (j i fuel : Nat), i0 ≤ i → n ≤ i + j → j < fuel → F fuel (i : Int) = if (List.range' i (n - i)).all p = true then fin else bad := by
  intro j
  induction j with
  | zero =>
   intro i fuel h0 h hf
   obtain ⟨f, rfl⟩ : ∃ f, fuel = f + 1 := ⟨fuel - 1, by omega⟩
   rw [last f i (by omega), show n - i = 0 by omega]
   rfl
  | succ j ih =>
   intro i fuel h0 h hf
   obtain ⟨f, rfl⟩ : ∃ f, fuel = f + 1 := ⟨fuel - 1, by omega⟩
   by_cases hi : i < n
   ·rw [step f i h0 hi, show n - i = (n - (i + 1)) + 1 by omega, List.range'_succ, List.all_cons]
    cases hp : p i with
    | true => rw [if_pos rfl, ih (i + 1) f (by omega) (by omega) (by omega), Bool.true_and]
    | false => rw [if_neg Bool.false_ne_true, Bool.false_and, if_neg Bool.false_ne_true]
   ·rw [last f i (by omega), show n - i = 0 by omega]
    rfl
 exact key n i0 FUEL (Nat.le_refl _) (by omega) (by have := fuel63 hn; omega)
theorem scan_idx {F : Nat → Int → Option Int} {n : Nat} (p : Nat → Bool) (hn : n < 2 ^ 63)
  (step : ∀ k i : Nat, i < n → F (k + 1) (i : Int) = if p i = true then some (i : Int) else F k ((i + 1 : Nat) : Int))
  (last : ∀ k i : Nat, n ≤ i → F (k + 1) (i : Int) = some (-1)) : ∃ r, F FUEL 0 = some r ∧ cop .geq r 0 = (List.range' 0 n).any p := by
 have key : ∀ (j i fuel : Nat), n ≤ i + j → j < fuel → ∃ r, F fuel (i : Int) = some r ∧ cop .geq r 0 = (List.range' i (n - i)).any p := by
  intro j
  induction j with
  | zero =>
   intro i fuel h hf
   obtain ⟨f, rfl⟩ : ∃ f, fuel = f + 1 := ⟨fuel - 1, by omega⟩
   rw [last f i (by omega), show n - i = 0 by omega]
   exact ⟨_, rfl, rfl⟩
  | succ j ih =>
   intro i fuel h hf
   obtain ⟨f, rfl⟩ : ∃ f, fuel = f + 1 := ⟨fuel - 1, by omega⟩
   by_cases hi : i < n
   ·rw [step f i hi, show n - i = (n - (i + 1)) + 1 by omega, List.range'_succ, List.any_cons]
    cases hp : p i with
    | true =>
     rw [if_pos rfl, Bool.true_or]
     refine ⟨_, rfl, ?_⟩
     simp only [CQ]
     omega
    | false => rw [if_neg Bool.false_ne_true, Bool.false_or]; exact ih (i + 1) f (by omega) (by omega)
   ·rw [last f i (by omega), show n - i = 0 by omega]
    exact ⟨_, rfl, rfl⟩
 have := key n 0 FUEL (by omega) (by have := fuel63 hn; omega)
 simpa using this
def atB {α : Type} (q : α → Bool) (l : List α) (i : Nat) : Bool := match l[i]? with | some x => q x | none => true
theorem atB_at {α : Type} (q : α → Bool) {l : List α} {i : Nat} (h : i < l.length) : atB q l i = q l[i] := by
 unfold atB
 rw [List.getElem?_eq_getElem h]
theorem all_at {α : Type} (q : α → Bool) (l : List α) : (List.range' 0 l.length).all (atB q l) = l.all q := by
 rw [bool_iff, List.all_eq_true, List.all_eq_true]
 constructor
 ·intro h x hx
  obtain ⟨i, hi, rfl⟩ := List.getElem_of_mem hx
  have := h i (by simp [List.mem_range', hi])
  rwa [atB_at q hi] at this
 ·intro h i hi
  have hi' : i < l.length := by simpa [List.mem_range'] using hi
  rw [atB_at q hi']
  exact h _ (List.getElem_mem hi')
theorem any_at {α : Type} (q : α → Bool) (l : List α) : (List.range' 0 l.length).any (fun i => !atB q l i) = !(l.all q) := by
 rw [← all_at q l, List.any_eq_not_all_not]
 simp
def prevB {α : Type} (lt : α → α → Bool) (l : List α) : Nat → Bool
 | 0 => true
 | j + 1 => match l[j]?, l[j + 1]? with | some a, some b => lt a b | _, _ => true
def ascB {α : Type} (lt : α → α → Bool) (l : List α) : Bool := (List.range' 0 l.length).all (prevB lt l)
theorem prev_at {α : Type} (lt : α → α → Bool) {l : List α} {j : Nat} (h : j + 1 < l.length) : prevB lt l (j + 1) = lt l[j] l[j + 1] := by
 show (match l[j]?, l[j + 1]? with | some a, some b => lt a b | _, _ => true) = _
 rw [List.getElem?_eq_getElem h, List.getElem?_eq_getElem (show j < l.length by omega)]
theorem asc1 {α : Type} (lt : α → α → Bool) (l : List α) : (List.range' 1 (l.length - 1)).all (prevB lt l) = ascB lt l := by
 unfold ascB
 cases l with
 | nil => rfl
 | cons a r => rw [show (a :: r).length = ((a :: r).length - 1) + 1 from rfl, List.range'_succ, List.all_cons]; rfl
theorem all_and {α : Type} (l : List α) (p q : α → Bool) : l.all (fun i => p i && q i) = (l.all p && l.all q) := by
 induction l with
 | nil => rfl
 | cons a r ih => simp only [List.all_cons, ih]; cases p a <;> cases q a <;> cases r.all p <;> rfl
theorem both_at {α : Type} (q : α → Bool) (lt : α → α → Bool) (l : List α) : (List.range' 0 l.length).all (fun i => atB q l i && prevB lt l i) = (l.all q && ascB lt l) := by
 rw [all_and, all_at]; rfl
structure Call where
 kind : Int
 slot : Int
 dest : Int
 core : Int
 mask : Int
 object : Int
 bits : Int
 level : Int
 offset : Int
 count : Int
 index : Int
 addr : Int
structure Req where
 id : Id
 call : Call
 region : Int
 width : Int
 src : Node
structure Slot where
 node : Node
 op : Int
 lock : Id
structure Mark where
 region : Int
 op : Id
structure Ans where
 op : Int
 err : Int
structure Entry where
 core : Int
 slot : Int
 node : Node
structure Move where
 region : Int
 to : Int
structure View where
 number : Int
 members : List Int
 owners : List Int
structure State where
 slots : List Slot
 pending : List Req
 marks : List Mark
 answers : List Ans
 entries : List Entry
 commits : List Id
structure Report where
 core : Int
 view : View
 state : State
 ready : Bool
 next : View
 proposal : State
def nodec (n : Node) : List AV := [I n.id.core, I n.id.op, I n.id.part, .slice false 3 (idCells n.path), I n.cap.kind, I n.cap.base, I n.cap.bits, I n.cap.rights, I n.cap.width, I n.cap.level, B n.cap.device]
def callc (c : Call) : List AV := [I c.kind, I c.slot, I c.dest, I c.core, I c.mask, I c.object, I c.bits, I c.level, I c.offset, I c.count, I c.index, I c.addr]
def reqc (r : Req) : List AV := [I r.id.core, I r.id.op, I r.id.part, I r.call.kind, I r.call.slot, I r.call.dest, I r.call.core, I r.call.mask, I r.call.object, I r.call.bits, I r.call.level, I r.call.offset, I r.call.count, I r.call.index, I r.call.addr, I r.region, I r.width, I r.src.id.core, I r.src.id.op, I r.src.id.part, .slice false 3 (idCells r.src.path), I r.src.cap.kind, I r.src.cap.base, I r.src.cap.bits, I r.src.cap.rights, I r.src.cap.width, I r.src.cap.level, B r.src.cap.device]
def slotc (s : Slot) : List AV := [I s.node.id.core, I s.node.id.op, I s.node.id.part, .slice false 3 (idCells s.node.path), I s.node.cap.kind, I s.node.cap.base, I s.node.cap.bits, I s.node.cap.rights, I s.node.cap.width, I s.node.cap.level, B s.node.cap.device, I s.op, I s.lock.core, I s.lock.op, I s.lock.part]
def markc (m : Mark) : List AV := [I m.region, I m.op.core, I m.op.op, I m.op.part]
def ansc (a : Ans) : List AV := [I a.op, I a.err]
def movec (a : Move) : List AV := [I a.region, I a.to]
def entryc (e : Entry) : List AV := [I e.core, I e.slot, I e.node.id.core, I e.node.id.op, I e.node.id.part, .slice false 3 (idCells e.node.path), I e.node.cap.kind, I e.node.cap.base, I e.node.cap.bits, I e.node.cap.rights, I e.node.cap.width, I e.node.cap.level, B e.node.cap.device]
abbrev nodeSh : List Sh := [.int .i64, .int .i64, .int .i64, .slice 3, .int .i64, .int .i64, .int .i64, .int .i64, .int .i64, .int .i64, .bool]
abbrev reqSh : List Sh := [.int .i64, .int .i64, .int .i64, .int .i64, .int .i64, .int .i64, .int .i64, .int .i64, .int .i64, .int .i64, .int .i64, .int .i64, .int .i64, .int .i64, .int .i64, .int .i64, .int .i64, .int .i64, .int .i64, .int .i64, .slice 3, .int .i64, .int .i64, .int .i64, .int .i64, .int .i64, .int .i64, .bool]
abbrev slotSh : List Sh := [.int .i64, .int .i64, .int .i64, .slice 3, .int .i64, .int .i64, .int .i64, .int .i64, .int .i64, .int .i64, .bool, .int .i64, .int .i64, .int .i64, .int .i64]
abbrev entrySh : List Sh := [.int .i64, .int .i64, .int .i64, .int .i64, .int .i64, .slice 3, .int .i64, .int .i64, .int .i64, .int .i64, .int .i64, .int .i64, .bool]
def nodeV (n : Node) : ShsT nodeSh := (n.id.core, n.id.op, n.id.part, idCells n.path, n.cap.kind, n.cap.base, n.cap.bits, n.cap.rights, n.cap.width, n.cap.level, n.cap.device)
def reqV (r : Req) : ShsT reqSh := (r.id.core, r.id.op, r.id.part, r.call.kind, r.call.slot, r.call.dest, r.call.core, r.call.mask, r.call.object, r.call.bits, r.call.level, r.call.offset, r.call.count, r.call.index, r.call.addr, r.region, r.width, r.src.id.core, r.src.id.op, r.src.id.part, idCells r.src.path, r.src.cap.kind, r.src.cap.base, r.src.cap.bits, r.src.cap.rights, r.src.cap.width, r.src.cap.level, r.src.cap.device)
def slotV (s : Slot) : ShsT slotSh := (s.node.id.core, s.node.id.op, s.node.id.part, idCells s.node.path, s.node.cap.kind, s.node.cap.base, s.node.cap.bits, s.node.cap.rights, s.node.cap.width, s.node.cap.level, s.node.cap.device, s.op, s.lock.core, s.lock.op, s.lock.part)
def entryV (e : Entry) : ShsT entrySh := (e.core, e.slot, e.node.id.core, e.node.id.op, e.node.id.part, idCells e.node.path, e.node.cap.kind, e.node.cap.base, e.node.cap.bits, e.node.cap.rights, e.node.cap.width, e.node.cap.level, e.node.cap.device)
theorem elem_map {α γ : Type} {f : α → List AV} {sh : List Sh} {v : α → ShsT sh} (hf : ∀ x, ofEs sh (f x) = some (v x)) {l : List α} {i : Nat} (h : i < l.length) (k : ShsT sh → Option γ) : elemK (l.map f) (i : Int) sh k = k (v l[i]) := by
 refine elemK_at k (by omega) (cs := f l[i]) ?_ (hf _)
 rw [Int.toNat_natCast, List.getElem?_map, List.getElem?_eq_getElem h]
 rfl
theorem elem_nodes {γ : Type} {l : List Node} {i : Nat} (h : i < l.length) (k : ShsT nodeSh → Option γ) : elemK (l.map nodec) (i : Int) nodeSh k = k (nodeV l[i]) := elem_map (fun _ => rfl) h k
theorem elem_reqs {γ : Type} {l : List Req} {i : Nat} (h : i < l.length) (k : ShsT reqSh → Option γ) : elemK (l.map reqc) (i : Int) reqSh k = k (reqV l[i]) := elem_map (fun _ => rfl) h k
theorem elem_slots {γ : Type} {l : List Slot} {i : Nat} (h : i < l.length) (k : ShsT slotSh → Option γ) : elemK (l.map slotc) (i : Int) slotSh k = k (slotV l[i]) := elem_map (fun _ => rfl) h k
theorem elem_entries {γ : Type} {l : List Entry} {i : Nat} (h : i < l.length) (k : ShsT entrySh → Option γ) : elemK (l.map entryc) (i : Int) entrySh k = k (entryV l[i]) := elem_map (fun _ => rfl) h k
theorem elem_marks {γ : Type} {l : List Mark} {i : Nat} (h : i < l.length) (k : (Int × Int × Int × Int) → Option γ) : elemK (l.map markc) (i : Int) [.int .i64, .int .i64, .int .i64, .int .i64] k = k (l[i].region, l[i].op.core, l[i].op.op, l[i].op.part) := elem_map (sh := [.int .i64, .int .i64, .int .i64, .int .i64]) (v := fun x => (x.region, x.op.core, x.op.op, x.op.part)) (fun _ => rfl) h k
theorem elem_anss {γ : Type} {l : List Ans} {i : Nat} (h : i < l.length) (k : (Int × Int) → Option γ) : elemK (l.map ansc) (i : Int) [.int .i64, .int .i64] k = k (l[i].op, l[i].err) := elem_map (sh := [.int .i64, .int .i64]) (v := fun x => (x.op, x.err)) (fun _ => rfl) h k
theorem elem_moves {γ : Type} {l : List Move} {i : Nat} (h : i < l.length) (k : (Int × Int) → Option γ) : elemK (l.map movec) (i : Int) [.int .i64, .int .i64] k = k (l[i].region, l[i].to) := elem_map (sh := [.int .i64, .int .i64]) (v := fun x => (x.region, x.to)) (fun _ => rfl) h k
theorem elem_ids {γ : Type} {l : List Id} {i : Nat} (h : i < l.length) (k : (Int × Int × Int) → Option γ) : elemK (idCells l) (i : Int) [.int .i64, .int .i64, .int .i64] k = k (l[i].core, l[i].op, l[i].part) := elem_map (f := idc) (sh := [.int .i64, .int .i64, .int .i64]) (v := fun x => (x.core, x.op, x.part)) (fun _ => rfl) h k
theorem elem_ints {γ : Type} {l : List Int} {i : Nat} (h : i < l.length) (k : Int → Option γ) : elemK (intCells l) (i : Int) [.int .i64] k = k l[i] := elem_map (f := i64c) (sh := [.int .i64]) (v := fun x => x) (fun _ => rfl) h k
theorem id_eta (i : Id) : (⟨i.core, i.op, i.part⟩ : Id) = i := rfl
end Go.Proofs.YtljejgmcgddppaaGreat
end

section
namespace Go.Proofs.YtljejgmcgddppaaGreat
open Go Go.AM
set_option linter.unusedSimpArgs false
set_option linter.unusedVariables false
set_option maxRecDepth 100000
def coreOk (z : Int) : Bool := decide (0 ≤ z ∧ z < 32)
def regOk (z : Int) : Bool := decide (0 ≤ z ∧ z < 16)
def slotOk (z : Int) : Bool := decide (0 ≤ z ∧ z < 64)
def errOk (z : Int) : Bool := decide (0 ≤ z ∧ z ≤ 99)
def opOk (i : Id) : Bool := idOk i && decide (i.part = 0)
theorem s67 (z : Int) : g67 z = some (coreOk z) := by
 rw [g67_eq]
 repeat' split
 all_goals (refine congrArg some ?_; rw [bool_iff]; simp only [coreOk, CQ] at *; omega)
theorem s90 (z : Int) : g90 z = some (coreOk z) := by
 rw [g90_eq]
 repeat' split
 all_goals (refine congrArg some ?_; rw [bool_iff]; simp only [coreOk, CQ] at *; omega)
theorem s110 (z : Int) : g110 z = some (regOk z) := by
 rw [g110_eq]
 repeat' split
 all_goals (refine congrArg some ?_; rw [bool_iff]; simp only [regOk, CQ] at *; omega)
theorem s100 (z : Int) : g100 z = some (regOk z) := by
 rw [g100_eq]
 repeat' split
 all_goals (refine congrArg some ?_; rw [bool_iff]; simp only [regOk, CQ] at *; omega)
theorem s117 (z : Int) : g117 z = some (slotOk z) := by
 rw [g117_eq]
 repeat' split
 all_goals (refine congrArg some ?_; rw [bool_iff]; simp only [slotOk, CQ] at *; omega)
theorem s113 (z : Int) : g113 z = some (errOk z) := by
 rw [g113_eq]
 repeat' split
 all_goals (refine congrArg some ?_; rw [bool_iff]; simp only [errOk, CQ] at *; omega)
theorem s93 (z : Int) : g93 z = some (errOk z) := by
 rw [g93_eq]
 repeat' split
 all_goals (refine congrArg some ?_; rw [bool_iff]; simp only [errOk, CQ] at *; omega)
theorem s112 (i : Id) : g112 i.core i.op i.part = some (opOk i) := by
 rw [g112_eq, s120, Option.bind_some, id_eta]
 repeat' split
 all_goals (refine congrArg some ?_; rw [bool_iff]; simp only [opOk, CQ] at *; grind)
theorem s92 (i : Id) : g92 i.core i.op i.part = some (opOk i) := by
 rw [g92_eq, s88, Option.bind_some, id_eta]
 repeat' split
 all_goals (refine congrArg some ?_; rw [bool_iff]; simp only [opOk, CQ] at *; grind)
theorem l163 {l m : List Id} (hl : l.length < 2 ^ 63) (h : l.length = m.length) : g163L0 FUEL (idCells l) (idCells m) (l.length : Int) 0 = some (decide (l = m)) := by
 have := scan_all (F := fun k i => g163L0 k (idCells l) (idCells m) (l.length : Int) i) (n := l.length) (fin := some true) (bad := some false) (fun i => decide (l[i]? = m[i]?)) hl 0 (by omega)
  (fun k i _ hi => by
   have hm : i < m.length := by omega
   show g163L0 (k + 1) _ _ _ _ = _
   rw [g163L0_eq, if_pos (lss_t hi), elem_ids hi, elem_ids hm, inc_i hi hl]
   rw [List.getElem?_eq_getElem hi, List.getElem?_eq_getElem hm]
   by_cases he : l[i] = m[i]
   ·rw [if_neg (by rw [Bool.not_eq_true', ← Bool.not_eq_true, id_eqb]; exact fun h => h he), if_pos (by simp [he])]
   ·rw [if_pos (by rw [Bool.not_eq_true', ← Bool.not_eq_true, id_eqb]; exact he), if_neg (by simp [he])])
  (fun k i hi => by show g163L0 (k + 1) _ _ _ _ = _; rw [g163L0_eq, if_neg (lss_f hi)])
 refine this.trans ?_
 have e : (List.range' 0 (l.length - 0)).all (fun i => decide (l[i]? = m[i]?)) = decide (l = m) := by
  rw [bool_iff, List.all_eq_true, decide_eq_true_eq]
  constructor
  ·intro hh
   refine List.ext_getElem? fun i => ?_
   by_cases hi : i < l.length
   ·exact of_decide_eq_true (hh i (by simp [List.mem_range', hi]))
   ·rw [List.getElem?_eq_none (by omega), List.getElem?_eq_none (by omega)]
  ·rintro rfl i _
   exact decide_eq_true rfl
 rw [e]
 cases decide (l = m) <;> rfl
theorem s163 (l m : List Id) (hl : l.length < 2 ^ 63) : g163 (idCells l) (idCells m) = some (decide (l = m)) := by
 rw [g163_eq, ids_len, ids_len]
 by_cases h : l.length = m.length
 ·rw [if_neg (by simp [cop, h]), l163 hl h]
 ·rw [if_pos (by simp [cop]; omega)]
  have : ¬ l = m := fun he => h (by rw [he])
  simp [this]
def sameN (a b : Node) : Bool := decide (a.id = b.id) && decide (a.cap.kind = b.cap.kind ∧ a.cap.base = b.cap.base ∧ a.cap.bits = b.cap.bits ∧ a.cap.rights = b.cap.rights ∧ a.cap.width = b.cap.width ∧ a.cap.level = b.cap.level ∧ a.cap.device = b.cap.device) && decide (a.path = b.path)
theorem cap_eqb (a b : Cap) : (((cop .eql a.kind b.kind) && ((cop .eql a.base b.base) && ((cop .eql a.bits b.bits) && ((cop .eql a.rights b.rights) && ((cop .eql a.width b.width) && ((cop .eql a.level b.level) && ((a.device == b.device) && true))))))) = true) ↔ (a.kind = b.kind ∧ a.base = b.base ∧ a.bits = b.bits ∧ a.rights = b.rights ∧ a.width = b.width ∧ a.level = b.level ∧ a.device = b.device) := by
 simp only [CQ, beq_iff_eq, and_true]
theorem s148 (a b : Node) (ha : a.path.length < 2 ^ 63) : g148 a.id.core a.id.op a.id.part (idCells a.path) a.cap.kind a.cap.base a.cap.bits a.cap.rights a.cap.width a.cap.level a.cap.device b.id.core b.id.op b.id.part (idCells b.path) b.cap.kind b.cap.base b.cap.bits b.cap.rights b.cap.width b.cap.level b.cap.device = some (sameN a b) := by
 rw [g148_eq, s163 _ _ ha, Option.bind_some]
 unfold sameN
 refine ite_goal (fun h => ?_) fun h => ?_
 ·rw [id_eqb] at h
  refine ite_goal (fun h2 => ?_) fun h2 => ?_
  ·rw [cap_eqb] at h2
   rw [decide_eq_true (show a.id = b.id from h), decide_eq_true h2]; rfl
  ·rw [cap_eqb] at h2
   rw [decide_eq_true (show a.id = b.id from h), decide_eq_false h2]; rfl
 ·rw [id_eqb] at h
  rw [decide_eq_false (show ¬ a.id = b.id from h)]; rfl
theorem s19' (a b : Node) (ha : a.path.length < 2 ^ 63) (hb : b.path.length < 2 ^ 63) : g19 a.id.core a.id.op a.id.part (idCells a.path) a.cap.kind a.cap.base a.cap.bits a.cap.rights a.cap.width a.cap.level a.cap.device b.id.core b.id.op b.id.part (idCells b.path) b.cap.kind b.cap.base b.cap.bits b.cap.rights b.cap.width b.cap.level b.cap.device = some (sameN a b) := by
 rw [g19_eq, s46 _ _ ha hb, Option.bind_some]
 unfold sameN
 refine ite_goal (fun h => ?_) fun h => ?_
 ·rw [id_eqb] at h
  refine ite_goal (fun h2 => ?_) fun h2 => ?_
  ·rw [cap_eqb] at h2
   rw [decide_eq_true (show a.id = b.id from h), decide_eq_true h2]; rfl
  ·rw [cap_eqb] at h2
   rw [decide_eq_true (show a.id = b.id from h), decide_eq_false h2]; rfl
 ·rw [id_eqb] at h
  rw [decide_eq_false (show ¬ a.id = b.id from h)]; rfl
def noNode : Node := ⟨⟨0, 0, 0⟩, [], ⟨0, 0, 0, 0, 0, 0, false⟩⟩
theorem s148z (a : Node) (ha : a.path.length < 2 ^ 63) : g148 a.id.core a.id.op a.id.part (idCells a.path) a.cap.kind a.cap.base a.cap.bits a.cap.rights a.cap.width a.cap.level a.cap.device 0 0 0 ([] : List (List AV)) 0 0 0 0 0 0 false = some (sameN a noNode) := s148 a noNode ha
theorem s19z (a : Node) (ha : a.path.length < 2 ^ 63) : g19 a.id.core a.id.op a.id.part (idCells a.path) a.cap.kind a.cap.base a.cap.bits a.cap.rights a.cap.width a.cap.level a.cap.device 0 0 0 ([] : List (List AV)) 0 0 0 0 0 0 false = some (sameN a noNode) := s19' a noNode ha (by simp [noNode])
def reqOk (r : Req) : Bool := opOk r.id && decide (1 ≤ r.call.kind ∧ r.call.kind ≤ 6) && regOk r.region && decide (r.width = 32 ∨ r.width = 39) && (if r.call.kind = 1 then sameN r.src noNode else nodeOk r.src)
theorem s111 (r : Req) (hr : r.src.path.length < 2 ^ 63) : g111 r.id.core r.id.op r.id.part r.call.kind r.call.slot r.call.dest r.call.core r.call.mask r.call.object r.call.bits r.call.level r.call.offset r.call.count r.call.index r.call.addr r.region r.width r.src.id.core r.src.id.op r.src.id.part (idCells r.src.path) r.src.cap.kind r.src.cap.base r.src.cap.bits r.src.cap.rights r.src.cap.width r.src.cap.level r.src.cap.device = some (reqOk r) := by
 rw [g111_eq]
 simp only [s112, s110, s148z _ hr, s116 _ hr, Option.bind_some]
 repeat' split
 all_goals (refine congrArg some ?_; rw [bool_iff]; simp only [reqOk, CQ] at *; grind)
theorem s91 (r : Req) (hr : r.src.path.length < 2 ^ 63) : g91 r.id.core r.id.op r.id.part r.call.kind r.call.slot r.call.dest r.call.core r.call.mask r.call.object r.call.bits r.call.level r.call.offset r.call.count r.call.index r.call.addr r.region r.width r.src.id.core r.src.id.op r.src.id.part (idCells r.src.path) r.src.cap.kind r.src.cap.base r.src.cap.bits r.src.cap.rights r.src.cap.width r.src.cap.level r.src.cap.device = some (reqOk r) := by
 rw [g91_eq]
 simp only [s92, s100, s19z _ hr, s87 _ hr, Option.bind_some]
 repeat' split
 all_goals (refine congrArg some ?_; rw [bool_iff]; simp only [reqOk, CQ] at *; grind)
end Go.Proofs.YtljejgmcgddppaaGreat
end

section
namespace Go.Proofs.YtljejgmcgddppaaGreat
open Go Go.AM
set_option linter.unusedSimpArgs false
set_option linter.unusedVariables false
set_option maxRecDepth 100000
theorem scan_hit {γ : Type} {F : Nat → Int → Option γ} {n : Nat} {miss : γ} (hit : Nat → γ) (p : Nat → Bool) (hn : n < 2 ^ 63)
  (step : ∀ k i : Nat, i < n → F (k + 1) (i : Int) = if p i = true then some (hit i) else F k ((i + 1 : Nat) : Int))
  (last : ∀ k i : Nat, n ≤ i → F (k + 1) (i : Int) = some miss) :
  (∃ i, i < n ∧ p i = true ∧ (∀ j, j < i → p j = false) ∧ F FUEL 0 = some (hit i)) ∨ ((∀ j, j < n → p j = false) ∧ F FUEL 0 = some miss) := by
 have key : ∀ (j i fuel : Nat), n ≤ i + j → j < fuel → (∃ m, i ≤ m ∧ m < n ∧ p m = true ∧ (∀ j, i ≤ j → j < m → p j = false) ∧ F fuel (i : Int) = some (hit m)) ∨ ((∀ j, i ≤ j → j < n → p j = false) ∧ F fuel (i : Int) = some miss) := by
  intro j
  induction j with
  | zero =>
   intro i fuel h hf
   obtain ⟨f, rfl⟩ : ∃ f, fuel = f + 1 := ⟨fuel - 1, by omega⟩
   exact .inr ⟨fun j h1 h2 => by omega, last f i (by omega)⟩
  | succ j ih =>
   intro i fuel h hf
   obtain ⟨f, rfl⟩ : ∃ f, fuel = f + 1 := ⟨fuel - 1, by omega⟩
   by_cases hi : i < n
   ·rw [step f i hi]
    cases hp : p i with
    | true => exact .inl ⟨i, Nat.le_refl _, hi, hp, fun j h1 h2 => by omega, if_pos rfl⟩
    | false =>
     rw [if_neg Bool.false_ne_true]
     rcases ih (i + 1) f (by omega) (by omega) with ⟨m, h1, h2, h3, h4, h5⟩ | ⟨h1, h2⟩
     ·refine .inl ⟨m, by omega, h2, h3, fun j h6 h7 => ?_, h5⟩
      by_cases he : j = i
      ·rw [he]; exact hp
      ·exact h4 j (by omega) h7
     ·refine .inr ⟨fun j h6 h7 => ?_, h2⟩
      by_cases he : j = i
      ·rw [he]; exact hp
      ·exact h1 j (by omega) h7
   ·exact .inr ⟨fun j h1 h2 => by omega, last f i (by omega)⟩
 rcases key n 0 FUEL (by omega) (by have := fuel63 hn; omega) with ⟨m, _, h2, h3, h4, h5⟩ | ⟨h1, h2⟩
 ·exact .inl ⟨m, h2, h3, fun j hj => h4 j (by omega) hj, h5⟩
 ·exact .inr ⟨fun j hj => h1 j (by omega) hj, h2⟩
def zid : Id := ⟨0, 0, 0⟩
def hitS (i : Id) (t : Slot) : Bool := !decide (t.node.id = zid) && decide (t.node.id = i)
def slot1 (s : Slot) : Bool := decide (0 ≤ s.op ∧ s.op ≤ 1073741824) && (if s.node.id = zid then sameN s.node noNode && decide (s.lock = zid) else nodeOk s.node && (decide (s.lock = zid) || opOk s.lock))
def uniqAt (l : List Slot) (i : Nat) : Bool := match l[i]? with | some s => !((l.take i).any (hitS s.node.id)) | none => true
def slotsOk (l : List Slot) : Bool := decide (l.length ≤ 64) && (List.range' 0 l.length).all (fun i => atB slot1 l i && uniqAt l i)
theorem zid_eqb (a b c : Int) : ((cop .eql a 0 && (cop .eql b 0 && (cop .eql c 0 && true))) = true) ↔ ((⟨a, b, c⟩ : Id) = zid) := id_eqb a b c 0 0 0
theorem s169 (s : Slot) (hs : s.node.path.length < 2 ^ 63) : g169 s.node.id.core s.node.id.op s.node.id.part (idCells s.node.path) s.node.cap.kind s.node.cap.base s.node.cap.bits s.node.cap.rights s.node.cap.width s.node.cap.level s.node.cap.device s.op s.lock.core s.lock.op s.lock.part = some (slot1 s) := by
 rw [g169_eq]
 simp only [g72_eq, s148z _ hs, s116 _ hs, s120, Option.bind_some, zid_eqb, id_eta]
 have e : cop .eql s.lock.part 0 = decide (s.lock.part = 0) := rfl
 have e2 : ((cop .eql s.lock.core 0) && ((cop .eql s.lock.op 0) && ((cop .eql s.lock.part 0) && true))) = decide (s.lock = zid) := by
  rw [bool_iff, zid_eqb, id_eta, decide_eq_true_eq]
 simp only [e2]
 repeat' split
 all_goals (refine congrArg some ?_; rw [bool_iff]; simp only [slot1, opOk, CQ] at *; grind)
theorem any_take {α : Type} (q : α → Bool) (l : List α) (i : Nat) (hi : i ≤ l.length) : (l.take i).any q = true ↔ ∃ j, ∃ (h : j < l.length), j < i ∧ q l[j] = true := by
 rw [List.any_eq_true]
 constructor
 ·rintro ⟨x, hx, hq⟩
  obtain ⟨j, hj, rfl⟩ := List.getElem_of_mem hx
  rw [List.length_take] at hj
  rw [List.getElem_take] at hq
  exact ⟨j, by omega, by omega, hq⟩
 ·rintro ⟨j, h1, h2, hq⟩
  refine ⟨l[j], ?_, hq⟩
  rw [List.mem_iff_getElem]
  exact ⟨j, by rw [List.length_take]; omega, by rw [List.getElem_take]⟩
theorem slots_len (l : List Slot) : (l.map slotc).length = l.length := List.length_map _
theorem s134 (l : List Slot) (hl : l.length < 2 ^ 63) (a b c : Int) : ∃ r, g134 (l.map slotc) a b c = some (r, l.any (hitS ⟨a, b, c⟩)) := by
 rw [g134_eq, slots_len]
 have := scan_hit (F := fun k i => g134L0 k a b c (l.map slotc) (l.length : Int) i) (n := l.length) (miss := ((0 : Int), false)) (fun i => ((i : Int), true)) (atB (hitS ⟨a, b, c⟩) l) hl
  (fun k i hi => by
   show g134L0 (k + 1) _ _ _ _ _ _ = _
   rw [g134L0_eq, if_pos (lss_t hi)]
   refine (elem_slots hi _).trans ?_
   simp only [slotV, d2, d4, d8, d16]
   rw [g72_eq, Option.bind_some, inc_i hi hl, atB_at _ hi]
   generalize l[i] = t
   simp only [zid_eqb, id_eqb, id_eta, Bool.not_eq_true']
   unfold hitS
   by_cases h1 : t.node.id = zid
   ·rw [if_neg (by simp only [Bool.not_eq_false]; rw [zid_eqb]; exact h1), if_neg (by simp [h1])]
   ·rw [if_pos (by rw [← Bool.not_eq_true, zid_eqb]; exact h1)]
    by_cases h2 : t.node.id = ⟨a, b, c⟩
    ·rw [if_pos (by exact h2), if_pos (by simp [h1, h2]; exact fun h => h1 (h2.trans h))]
    ·rw [if_neg (by exact h2), if_neg (by simp [h1, h2])])
  (fun k i hi => by show g134L0 (k + 1) _ _ _ _ _ _ = _; rw [g134L0_eq, if_neg (lss_f hi)])
 rcases this with ⟨i, h1, h2, h3, h4⟩ | ⟨h1, h2⟩
 ·refine ⟨i, ?_⟩
  have e : l.any (hitS ⟨a, b, c⟩) = true := by
   rw [atB_at _ h1] at h2
   exact List.any_eq_true.2 ⟨l[i], List.getElem_mem h1, h2⟩
  rw [e]; exact h4
 ·refine ⟨0, ?_⟩
  have e : l.any (hitS ⟨a, b, c⟩) = false := by
   rw [List.any_eq_false]
   intro x hx
   obtain ⟨j, hj, rfl⟩ := List.getElem_of_mem hx
   have := h1 j hj
   rw [atB_at _ hj] at this
   rw [this]; exact Bool.false_ne_true
  rw [e]; exact h2
theorem s155 (l : List Slot) (hl : l.length < 2 ^ 63) (hp : ∀ s ∈ l, s.node.path.length < 2 ^ 63) : g155 (l.map slotc) = some (slotsOk l) := by
 rw [g155_eq, slots_len]
 unfold slotsOk
 refine ite_goal (fun h => ?_) fun h => ?_
 ·rw [decide_eq_false (by simp only [CQ] at h; omega), Bool.false_and]
 ·rw [decide_eq_true (by simp only [CQ] at h; omega), Bool.true_and]
  have := scan_all (F := fun k i => g155L0 k (l.map slotc) (l.map slotc) (l.length : Int) i) (n := l.length) (fin := some true) (bad := some false) (fun i => atB slot1 l i && uniqAt l i) hl 0 (by omega)
   (fun k i _ hi => by
    show g155L0 (k + 1) _ _ _ _ = _
    rw [g155L0_eq, if_pos (lss_t hi)]
    refine (elem_slots hi _).trans ?_
    simp only [slotV, d2, d4, d8, d16]
    obtain ⟨r, hr⟩ := s134 (l.take i) (by rw [List.length_take]; omega) l[i].node.id.core l[i].node.id.op l[i].node.id.part
    have hu : uniqAt l i = !((l.take i).any (hitS l[i].node.id)) := by unfold uniqAt; rw [List.getElem?_eq_getElem hi]
    rw [s169 _ (hp _ (List.getElem_mem hi)), Option.bind_some, reqK_pos (by omega), reqK_pos (by rw [slots_len]; omega), Int.toNat_natCast, ← List.map_take, hr, Option.bind_some, inc_i hi hl, atB_at _ hi, hu, id_eta]
    cases slot1 l[i] <;> cases (l.take i).any (hitS l[i].node.id) <;> rfl)
   (fun k i hi => by show g155L0 (k + 1) _ _ _ _ = _; rw [g155L0_eq, if_neg (lss_f hi)])
  refine this.trans ?_
  rw [Nat.sub_zero]
  cases (List.range' 0 l.length).all (fun i => atB slot1 l i && uniqAt l i) <;> rfl
theorem s23 (l : List Slot) (hl : l.length < 2 ^ 63) (i : Nat) (hi : i < l.length) (hz : ¬ l[i].node.id = zid) : ∃ r, g23 (l.map slotc) l[i].node.id.core l[i].node.id.op l[i].node.id.part = some r ∧ (r = (i : Int) ↔ uniqAt l i = true) := by
 rw [g23_eq]
 have hself : hitS l[i].node.id l[i] = true := by simp [hitS, hz]
 have hu : uniqAt l i = !((l.take i).any (hitS l[i].node.id)) := by unfold uniqAt; rw [List.getElem?_eq_getElem hi]
 have := scan_hit (F := fun k j => g23L0 k (l.map slotc) l[i].node.id.core l[i].node.id.op l[i].node.id.part j) (n := l.length) (miss := (-1 : Int)) (fun j => (j : Int)) (atB (hitS l[i].node.id) l) hl
  (fun k j hj => by
   show g23L0 (k + 1) _ _ _ _ _ = _
   rw [g23L0_eq, slots_len, if_pos (lss_t hj)]
   refine (elem_slots hj _).trans ?_
   simp only [slotV, d2, d4, d8, d16]
   rw [g21_eq, Option.bind_some, inc_i hj hl, atB_at _ hj]
   generalize l[i].node.id = w
   refine (ite_goal (x := if hitS w l[j] = true then some (j : Int) else _) (fun h => ?_) fun h => ?_)
   ·refine (elem_slots hj _).trans ?_
    simp only [slotV, d2, d4, d8, d16]
    simp only [Bool.not_eq_true'] at h
    rw [← Bool.not_eq_true, zid_eqb, id_eta] at h
    unfold hitS
    by_cases h2 : l[j].node.id = w
    ·simp only [id_eqb, id_eta, h2, if_true]
     rw [if_pos (by simp; exact fun h3 => h (h2.trans h3))]
    ·simp only [id_eqb, id_eta, h2, if_false]
     rw [if_neg (by simp)]
   ·simp only [Bool.not_eq_true', Bool.not_eq_false] at h
    rw [zid_eqb, id_eta] at h
    rw [if_neg (by simp [hitS, h])])
  (fun k j hj => by show g23L0 (k + 1) _ _ _ _ _ = _; rw [g23L0_eq, slots_len, if_neg (lss_f hj)])
 rcases this with ⟨m, h1, h2, h3, h4⟩ | ⟨h1, _⟩
 ·refine ⟨m, h4, ?_⟩
  rw [hu, Bool.not_eq_true', ← Bool.not_eq_true, any_take _ _ _ (by omega)]
  constructor
  ·intro he
   have he' : m = i := by omega
   subst he'
   rintro ⟨j, hj, hji, hq⟩
   have := h3 j hji
   rw [atB_at _ hj, hq] at this
   cases this
  ·intro hn
   by_cases hmi : m = i
   ·rw [hmi]
   ·exfalso
    by_cases hlt : m < i
    ·rw [atB_at _ h1] at h2
     exact hn ⟨m, h1, hlt, h2⟩
    ·have := h3 i (by omega)
     rw [atB_at _ hi, hself] at this
     cases this
 ·have := h1 i hi
  rw [atB_at _ hi, hself] at this
  cases this
theorem s144 (l : List Slot) (hl : l.length < 2 ^ 63) (hp : ∀ s ∈ l, s.node.path.length < 2 ^ 63) : g144 (l.map slotc) = some (slotsOk l) := by
 rw [g144_eq, slots_len]
 unfold slotsOk
 refine ite_goal (fun h => ?_) fun h => ?_
 ·rw [decide_eq_false (by simp only [CQ] at h; omega), Bool.false_and]
 ·rw [decide_eq_true (by simp only [CQ] at h; omega), Bool.true_and]
  have := scan_all (F := fun k i => g144L0 k (l.map slotc) i) (n := l.length) (fin := some true) (bad := some false) (fun i => atB slot1 l i && uniqAt l i) hl 0 (by omega)
   (fun k i _ hi => by
    show g144L0 (k + 1) _ _ = _
    rw [g144L0_eq, slots_len, if_pos (lss_t hi)]
    refine (elem_slots hi _).trans ?_
    simp only [slotV, d2, d4, d8, d16]
    have hps := hp _ (List.getElem_mem hi)
    have hu : l[i].node.id = zid → uniqAt l i = true := by
     intro hz
     unfold uniqAt
     rw [List.getElem?_eq_getElem hi]
     simp only [Bool.not_eq_true', List.any_eq_false]
     intro t _
     rw [hz]
     simp [hitS]
    have h128 := s23 l hl i hi
    rw [atB_at _ hi, inc_i hi hl]
    generalize g144L0 k (l.map slotc) ((i + 1 : Nat) : Int) = X
    generalize huq : uniqAt l i = uq at *
    generalize hli : l[i] = t at *
    simp only [g21_eq, s88, s19z _ hps, s87 _ hps, Option.bind_some, zid_eqb, id_eta]
    have e2 : ((cop .eql t.lock.core 0) && ((cop .eql t.lock.op 0) && ((cop .eql t.lock.part 0) && true))) = decide (t.lock = zid) := by
     rw [bool_iff, zid_eqb, id_eta, decide_eq_true_eq]
    simp only [e2]
    by_cases hz : t.node.id = zid
    ·have := hu hz
     subst this
     simp only [hz, if_true]
     repeat' split
     all_goals (simp only [slot1, opOk, hz, if_true, CQ] at * <;> grind)
    ·obtain ⟨r, hr, hru⟩ := h128 hz
     simp only [hz, if_false, hr, Option.bind_some]
     repeat' split
     all_goals (simp only [slot1, opOk, hz, if_false, CQ] at * <;> grind))
   (fun k i hi => by show g144L0 (k + 1) _ _ = _; rw [g144L0_eq, slots_len, if_neg (lss_f hi)])
  refine this.trans ?_
  rw [Nat.sub_zero]
  cases (List.range' 0 l.length).all (fun i => atB slot1 l i && uniqAt l i) <;> rfl
end Go.Proofs.YtljejgmcgddppaaGreat
end

section
namespace Go.Proofs.YtljejgmcgddppaaGreat
open Go Go.AM
set_option linter.unusedSimpArgs false
set_option linter.unusedVariables false
set_option maxRecDepth 100000
theorem dec_i {j : Nat} (h : j + 1 < 2 ^ 63) : iop .sub .i64 ((j + 1 : Nat) : Int) 1 = (j : Int) := by
 rw [sub_i (by omega) (by omega)]; omega
theorem gtr_s (j : Nat) : cop .gtr ((j + 1 : Nat) : Int) 0 = true := by simp only [CQ]; omega
theorem gtr_z : cop .gtr ((0 : Nat) : Int) 0 = false := rfl
def ltId (a b : Id) : Bool := idLt a.core a.op a.part b.core b.op b.part
theorem s29 (a b c d e f : Int) : g29 a b c d e f = some (idLt a b c d e f) := by
 rw [g29_eq]
 repeat' split
 all_goals (refine congrArg some ?_; rw [bool_iff]; simp only [idLt, CQ] at *; omega)
def markOk (m : Mark) : Bool := regOk m.region && opOk m.op
def ansOk (a : Ans) : Bool := decide (1 ≤ a.op ∧ a.op ≤ 1073741824) && errOk a.err
def entOk (e : Entry) : Bool := coreOk e.core && slotOk e.slot && nodeOk e.node
def ltp : Req → Req → Bool := fun a b => ltId a.id b.id
theorem s171 (x : Req) (hx : x.src.path.length < 2 ^ 63) : g171 x.id.core x.id.op x.id.part x.call.kind x.call.slot x.call.dest x.call.core x.call.mask x.call.object x.call.bits x.call.level x.call.offset x.call.count x.call.index x.call.addr x.region x.width x.src.id.core x.src.id.op x.src.id.part (idCells x.src.path) x.src.cap.kind x.src.cap.base x.src.cap.bits x.src.cap.rights x.src.cap.width x.src.cap.level x.src.cap.device = some (!reqOk x) := by
 rw [g171_eq, s111 x hx, Option.bind_some]
theorem s184c171 (l : List Req) (hl : l.length < 2 ^ 63) (hp : ∀ x ∈ l, x.src.path.length < 2 ^ 63) : ∃ r, g184c171 (l.map reqc) = some r ∧ cop .geq r 0 = !(l.all reqOk) := by
 rw [g184c171_eq, List.length_map]
 have := scan_idx (F := fun k i => g184c171L0 k (l.map reqc) (l.length : Int) i) (n := l.length) (fun i => !atB reqOk l i) hl
  (fun k i hi => by
   show g184c171L0 (k + 1) _ _ _ = _
   rw [g184c171L0_eq, if_pos (lss_t hi)]
   refine (elem_reqs hi _).trans ?_
   simp only [reqV, d2, d4, d8, d16]
   rw [s171 l[i] (hp _ (List.getElem_mem hi)), Option.bind_some, inc_i hi hl, atB_at _ hi])
  (fun k i hi => by show g184c171L0 (k + 1) _ _ _ = _; rw [g184c171L0_eq, if_neg (lss_f hi)])
 rw [any_at] at this
 exact this
theorem s170c171 (l : List Req) (hl : l.length < 2 ^ 63) (hp : ∀ x ∈ l, x.src.path.length < 2 ^ 63) : g170c171 (l.map reqc) = some (!(l.all reqOk)) := by
 obtain ⟨r, h1, h2⟩ := s184c171 l hl hp
 rw [g170c171_eq, h1, Option.bind_some, h2]
theorem s172 (l : List Req) {j : Nat} (hj : j + 1 < l.length) : g172 (j : Int) ((j + 1 : Nat) : Int) (l.map reqc) = some (ltp l[j] l[j + 1], l.map reqc) := by
 rw [g172_eq]
 refine (elem_reqs (show j < l.length by omega) _).trans ?_
 refine (elem_reqs hj _).trans ?_
 simp only [reqV, d2, d4, d8, d16]
 rw [s173, Option.bind_some]; rfl
theorem s123c172 (l : List Req) (hl : l.length < 2 ^ 63) : g123c172 (l.length : Int) (l.map reqc) = some (ascB ltp l, l.map reqc) := by
 rw [g123c172_eq]
 have := scan_all (F := fun k i => g123c172L0 k (l.length : Int) i (l.map reqc)) (n := l.length) (fin := some (true, l.map reqc)) (bad := some (false, l.map reqc)) (prevB ltp l) hl 1 (by omega)
  (fun k i h1 hi => by
   obtain ⟨j, rfl⟩ : ∃ j, i = j + 1 := ⟨i - 1, by omega⟩
   show g123c172L0 (k + 1) _ _ _ = _
   rw [g123c172L0_eq, if_pos (lss_t hi), dec_i (by omega), s172 l hi, Option.bind_some, inc_i hi hl, prev_at _ hi]
   cases ltp l[j] l[j + 1] <;> rfl)
  (fun k i hi => by show g123c172L0 (k + 1) _ _ _ = _; rw [g123c172L0_eq, if_neg (lss_f hi)])
 rw [asc1] at this
 refine Eq.trans this ?_
 cases ascB ltp l <;> rfl
theorem s156 (l : List Req) (hl : l.length < 2 ^ 63) (hp : ∀ x ∈ l, x.src.path.length < 2 ^ 63) : g156 (l.map reqc) = some (l.all reqOk && ascB ltp l) := by
 rw [g156_eq, s170c171 l hl hp, Option.bind_some, List.length_map, s123c172 l hl, Option.bind_some]
 cases l.all reqOk <;> rfl
def ltm : Mark → Mark → Bool := fun a b => decide (a.region < b.region)
theorem s175 (x : Mark) : g175 x.region x.op.core x.op.op x.op.part = some (!markOk x) := by
 rw [g175_eq]
 simp only [s110, s112, Option.bind_some]
 repeat' split
 all_goals (refine congrArg some ?_; rw [bool_iff]; simp only [markOk, CQ] at * <;> grind)
theorem s135c175 (l : List Mark) (hl : l.length < 2 ^ 63) : ∃ r, g135c175 (l.map markc) = some r ∧ cop .geq r 0 = !(l.all markOk) := by
 rw [g135c175_eq, List.length_map]
 have := scan_idx (F := fun k i => g135c175L0 k (l.map markc) (l.length : Int) i) (n := l.length) (fun i => !atB markOk l i) hl
  (fun k i hi => by
   show g135c175L0 (k + 1) _ _ _ = _
   rw [g135c175L0_eq, if_pos (lss_t hi)]
   refine (elem_marks hi _).trans ?_
   simp only [d2, d4, d8, d16]
   rw [s175 l[i], Option.bind_some, inc_i hi hl, atB_at _ hi])
  (fun k i hi => by show g135c175L0 (k + 1) _ _ _ = _; rw [g135c175L0_eq, if_neg (lss_f hi)])
 rw [any_at] at this
 exact this
theorem s174c175 (l : List Mark) (hl : l.length < 2 ^ 63) : g174c175 (l.map markc) = some (!(l.all markOk)) := by
 obtain ⟨r, h1, h2⟩ := s135c175 l hl
 rw [g174c175_eq, h1, Option.bind_some, h2]
theorem s176 (l : List Mark) {j : Nat} (hj : j + 1 < l.length) : g176 (j : Int) ((j + 1 : Nat) : Int) (l.map markc) = some (ltm l[j] l[j + 1], l.map markc) := by
 rw [g176_eq]
 refine (elem_marks (show j < l.length by omega) _).trans ?_
 refine (elem_marks hj _).trans ?_
 simp only [d2, d4, d8, d16]
 rfl
theorem s123c176 (l : List Mark) (hl : l.length < 2 ^ 63) : g123c176 (l.length : Int) (l.map markc) = some (ascB ltm l, l.map markc) := by
 rw [g123c176_eq]
 have := scan_all (F := fun k i => g123c176L0 k (l.length : Int) i (l.map markc)) (n := l.length) (fin := some (true, l.map markc)) (bad := some (false, l.map markc)) (prevB ltm l) hl 1 (by omega)
  (fun k i h1 hi => by
   obtain ⟨j, rfl⟩ : ∃ j, i = j + 1 := ⟨i - 1, by omega⟩
   show g123c176L0 (k + 1) _ _ _ = _
   rw [g123c176L0_eq, if_pos (lss_t hi), dec_i (by omega), s176 l hi, Option.bind_some, inc_i hi hl, prev_at _ hi]
   cases ltm l[j] l[j + 1] <;> rfl)
  (fun k i hi => by show g123c176L0 (k + 1) _ _ _ = _; rw [g123c176L0_eq, if_neg (lss_f hi)])
 rw [asc1] at this
 refine Eq.trans this ?_
 cases ascB ltm l <;> rfl
theorem s157 (l : List Mark) (hl : l.length < 2 ^ 63) : g157 (l.map markc) = some (l.all markOk && ascB ltm l) := by
 rw [g157_eq, s174c175 l hl, Option.bind_some, List.length_map, s123c176 l hl, Option.bind_some]
 cases l.all markOk <;> rfl
def lta : Ans → Ans → Bool := fun a b => decide (a.op < b.op)
theorem s178 (x : Ans) : g178 x.op x.err = some (!ansOk x) := by
 rw [g178_eq]
 simp only [s113, Option.bind_some]
 repeat' split
 all_goals (refine congrArg some ?_; rw [bool_iff]; simp only [ansOk, CQ] at * <;> grind)
theorem s186c178 (l : List Ans) (hl : l.length < 2 ^ 63) : ∃ r, g186c178 (l.map ansc) = some r ∧ cop .geq r 0 = !(l.all ansOk) := by
 rw [g186c178_eq, List.length_map]
 have := scan_idx (F := fun k i => g186c178L0 k (l.map ansc) (l.length : Int) i) (n := l.length) (fun i => !atB ansOk l i) hl
  (fun k i hi => by
   show g186c178L0 (k + 1) _ _ _ = _
   rw [g186c178L0_eq, if_pos (lss_t hi)]
   refine (elem_anss hi _).trans ?_
   simp only [d2, d4, d8, d16]
   rw [s178 l[i], Option.bind_some, inc_i hi hl, atB_at _ hi])
  (fun k i hi => by show g186c178L0 (k + 1) _ _ _ = _; rw [g186c178L0_eq, if_neg (lss_f hi)])
 rw [any_at] at this
 exact this
theorem s177c178 (l : List Ans) (hl : l.length < 2 ^ 63) : g177c178 (l.map ansc) = some (!(l.all ansOk)) := by
 obtain ⟨r, h1, h2⟩ := s186c178 l hl
 rw [g177c178_eq, h1, Option.bind_some, h2]
theorem s179 (l : List Ans) {j : Nat} (hj : j + 1 < l.length) : g179 (j : Int) ((j + 1 : Nat) : Int) (l.map ansc) = some (lta l[j] l[j + 1], l.map ansc) := by
 rw [g179_eq]
 refine (elem_anss (show j < l.length by omega) _).trans ?_
 refine (elem_anss hj _).trans ?_
 simp only [d2, d4, d8, d16]
 rfl
theorem s123c179 (l : List Ans) (hl : l.length < 2 ^ 63) : g123c179 (l.length : Int) (l.map ansc) = some (ascB lta l, l.map ansc) := by
 rw [g123c179_eq]
 have := scan_all (F := fun k i => g123c179L0 k (l.length : Int) i (l.map ansc)) (n := l.length) (fin := some (true, l.map ansc)) (bad := some (false, l.map ansc)) (prevB lta l) hl 1 (by omega)
  (fun k i h1 hi => by
   obtain ⟨j, rfl⟩ : ∃ j, i = j + 1 := ⟨i - 1, by omega⟩
   show g123c179L0 (k + 1) _ _ _ = _
   rw [g123c179L0_eq, if_pos (lss_t hi), dec_i (by omega), s179 l hi, Option.bind_some, inc_i hi hl, prev_at _ hi]
   cases lta l[j] l[j + 1] <;> rfl)
  (fun k i hi => by show g123c179L0 (k + 1) _ _ _ = _; rw [g123c179L0_eq, if_neg (lss_f hi)])
 rw [asc1] at this
 refine Eq.trans this ?_
 cases ascB lta l <;> rfl
theorem s158 (l : List Ans) (hl : l.length < 2 ^ 63) : g158 (l.map ansc) = some (l.all ansOk && ascB lta l) := by
 rw [g158_eq, s177c178 l hl, Option.bind_some, List.length_map, s123c179 l hl, Option.bind_some]
 cases l.all ansOk <;> rfl
def lte : Entry → Entry → Bool := fun a b => ltId a.node.id b.node.id
theorem s181 (x : Entry) (hx : x.node.path.length < 2 ^ 63) : g181 x.core x.slot x.node.id.core x.node.id.op x.node.id.part (idCells x.node.path) x.node.cap.kind x.node.cap.base x.node.cap.bits x.node.cap.rights x.node.cap.width x.node.cap.level x.node.cap.device = some (!entOk x) := by
 rw [g181_eq]
 simp only [s67, s117, s116 _ hx, Option.bind_some]
 repeat' split
 all_goals (refine congrArg some ?_; rw [bool_iff]; simp only [entOk, CQ] at * <;> grind)
theorem s187c181 (l : List Entry) (hl : l.length < 2 ^ 63) (hp : ∀ x ∈ l, x.node.path.length < 2 ^ 63) : ∃ r, g187c181 (l.map entryc) = some r ∧ cop .geq r 0 = !(l.all entOk) := by
 rw [g187c181_eq, List.length_map]
 have := scan_idx (F := fun k i => g187c181L0 k (l.map entryc) (l.length : Int) i) (n := l.length) (fun i => !atB entOk l i) hl
  (fun k i hi => by
   show g187c181L0 (k + 1) _ _ _ = _
   rw [g187c181L0_eq, if_pos (lss_t hi)]
   refine (elem_entries hi _).trans ?_
   simp only [entryV, d2, d4, d8, d16]
   rw [s181 l[i] (hp _ (List.getElem_mem hi)), Option.bind_some, inc_i hi hl, atB_at _ hi])
  (fun k i hi => by show g187c181L0 (k + 1) _ _ _ = _; rw [g187c181L0_eq, if_neg (lss_f hi)])
 rw [any_at] at this
 exact this
theorem s180c181 (l : List Entry) (hl : l.length < 2 ^ 63) (hp : ∀ x ∈ l, x.node.path.length < 2 ^ 63) : g180c181 (l.map entryc) = some (!(l.all entOk)) := by
 obtain ⟨r, h1, h2⟩ := s187c181 l hl hp
 rw [g180c181_eq, h1, Option.bind_some, h2]
theorem s182 (l : List Entry) {j : Nat} (hj : j + 1 < l.length) : g182 (j : Int) ((j + 1 : Nat) : Int) (l.map entryc) = some (lte l[j] l[j + 1], l.map entryc) := by
 rw [g182_eq]
 refine (elem_entries (show j < l.length by omega) _).trans ?_
 refine (elem_entries hj _).trans ?_
 simp only [entryV, d2, d4, d8, d16]
 rw [s173, Option.bind_some]; rfl
theorem s123c182 (l : List Entry) (hl : l.length < 2 ^ 63) : g123c182 (l.length : Int) (l.map entryc) = some (ascB lte l, l.map entryc) := by
 rw [g123c182_eq]
 have := scan_all (F := fun k i => g123c182L0 k (l.length : Int) i (l.map entryc)) (n := l.length) (fin := some (true, l.map entryc)) (bad := some (false, l.map entryc)) (prevB lte l) hl 1 (by omega)
  (fun k i h1 hi => by
   obtain ⟨j, rfl⟩ : ∃ j, i = j + 1 := ⟨i - 1, by omega⟩
   show g123c182L0 (k + 1) _ _ _ = _
   rw [g123c182L0_eq, if_pos (lss_t hi), dec_i (by omega), s182 l hi, Option.bind_some, inc_i hi hl, prev_at _ hi]
   cases lte l[j] l[j + 1] <;> rfl)
  (fun k i hi => by show g123c182L0 (k + 1) _ _ _ = _; rw [g123c182L0_eq, if_neg (lss_f hi)])
 rw [asc1] at this
 refine Eq.trans this ?_
 cases ascB lte l <;> rfl
theorem s159 (l : List Entry) (hl : l.length < 2 ^ 63) (hp : ∀ x ∈ l, x.node.path.length < 2 ^ 63) : g159 (l.map entryc) = some (l.all entOk && ascB lte l) := by
 rw [g159_eq, s180c181 l hl hp, Option.bind_some, List.length_map, s123c182 l hl, Option.bind_some]
 cases l.all entOk <;> rfl
theorem s160 (x : Id) : g160 x.core x.op x.part = some (!opOk x) := by
 rw [g160_eq, s112, Option.bind_some]
theorem s151c160 (l : List Id) (hl : l.length < 2 ^ 63) : ∃ r, g151c160 (idCells l) = some r ∧ cop .geq r 0 = !(l.all opOk) := by
 rw [g151c160_eq, ids_len]
 have := scan_idx (F := fun k i => g151c160L0 k (idCells l) (l.length : Int) i) (n := l.length) (fun i => !atB opOk l i) hl
  (fun k i hi => by
   show g151c160L0 (k + 1) _ _ _ = _
   rw [g151c160L0_eq, if_pos (lss_t hi)]
   refine (elem_ids hi _).trans ?_
   dsimp only
   rw [s160 l[i], Option.bind_some, inc_i hi hl, atB_at _ hi])
  (fun k i hi => by show g151c160L0 (k + 1) _ _ _ = _; rw [g151c160L0_eq, if_neg (lss_f hi)])
 rw [any_at] at this
 exact this
theorem s118c160 (l : List Id) (hl : l.length < 2 ^ 63) : g118c160 (idCells l) = some (!(l.all opOk)) := by
 obtain ⟨r, h1, h2⟩ := s151c160 l hl
 rw [g118c160_eq, h1, Option.bind_some, h2]
def idsOk (ops : Bool) (i : Id) : Bool := idOk i && (!ops || decide (i.part = 0))
theorem s94 (l : List Id) (ops : Bool) (hl : l.length < 2 ^ 63) : g94 (idCells l) ops = some (l.all (idsOk ops)) := by
 rw [g94_eq]
 have := scan_all (F := fun k i => g94L0 k (idCells l) ops i) (n := l.length) (fin := some true) (bad := some false) (atB (idsOk ops) l) hl 0 (by omega)
  (fun k i _ hi => by
   show g94L0 (k + 1) _ _ _ = _
   rw [g94L0_eq, ids_len, if_pos (lss_t hi)]
   refine (elem_ids hi _).trans ?_
   dsimp only
   rw [s88, Option.bind_some, inc_i hi hl, atB_at _ hi, id_eta]
   generalize g94L0 k (idCells l) ops ((i + 1 : Nat) : Int) = X
   have e : ∀ k : (Int × Int × Int) → Option Bool, elemK (idCells l) (i : Int) [.int .i64, .int .i64, .int .i64] k = k (l[i].core, l[i].op, l[i].part) := fun k => elem_ids hi k
   simp only [e]
   generalize l[i] = t
   unfold idsOk
   repeat' split
   all_goals (simp only [CQ] at * <;> grind))
  (fun k i hi => by show g94L0 (k + 1) _ _ _ = _; rw [g94L0_eq, ids_len, if_neg (lss_f hi)])
 rw [Nat.sub_zero, all_at] at this
 refine Eq.trans this ?_
 cases l.all (idsOk ops) <;> rfl
theorem s98L0 (l : List Entry) (hl : l.length < 2 ^ 63) (hp : ∀ x ∈ l, x.node.path.length < 2 ^ 63) (x0 x1 x2 x3 x5 : List (List AV)) : g98L0 FUEL x0 x1 x2 x3 (l.map entryc) x5 0 = if (l.all entOk && ascB lte l) = true then some true else some false := by
 have := scan_all (F := fun k i => g98L0 k x0 x1 x2 x3 (l.map entryc) x5 i) (n := l.length) (fin := some true) (bad := some false) (fun i => atB entOk l i && prevB lte l i) hl 0 (by omega)
  (fun k i _ hi => by
   show g98L0 (k + 1) x0 x1 x2 x3 (l.map entryc) x5 _ = _
   rw [g98L0_eq, List.length_map, if_pos (lss_t hi)]
   refine (elem_entries hi _).trans ?_
   rw [inc_i hi hl, atB_at _ hi]
   generalize g98L0 k x0 x1 x2 x3 (l.map entryc) x5 ((i + 1 : Nat) : Int) = X
   cases i with
   | zero =>
    simp only [entryV, d2, d4, d8, d16, s90, s87 _ (hp _ (List.getElem_mem hi)), s29, Option.bind_some, gtr_z, Bool.false_eq_true, if_false, prevB, Bool.and_true]
    generalize l[0] = t
    repeat' split
    all_goals (simp only [entOk, regOk, slotOk, CQ] at * <;> grind)
   | succ j =>
    simp only [entryV, d2, d4, d8, d16, s90, s87 _ (hp _ (List.getElem_mem hi)), s29, Option.bind_some, gtr_s, if_true, dec_i (show j + 1 < 2 ^ 63 by omega), elem_entries (show j < l.length by omega), elem_entries hi, prev_at _ hi]
    generalize l[j + 1] = t
    generalize l[j] = u
    unfold lte ltId
    repeat' split
    all_goals (simp only [entOk, regOk, slotOk, CQ] at * <;> grind))
  (fun k i hi => by show g98L0 (k + 1) x0 x1 x2 x3 (l.map entryc) x5 _ = _; rw [g98L0_eq, List.length_map, if_neg (lss_f hi)])
 rw [Nat.sub_zero, both_at] at this
 exact this
theorem s98L1 (l : List Ans) (hl : l.length < 2 ^ 63) (x0 x1 x2 x4 x5 : List (List AV)) : g98L1 FUEL x0 x1 x2 (l.map ansc) x4 x5 0 = if (l.all ansOk && ascB lta l) = true then g98L0 FUEL x0 x1 x2 (l.map ansc) x4 x5 0 else some false := by
 have := scan_all (F := fun k i => g98L1 k x0 x1 x2 (l.map ansc) x4 x5 i) (n := l.length) (fin := g98L0 FUEL x0 x1 x2 (l.map ansc) x4 x5 0) (bad := some false) (fun i => atB ansOk l i && prevB lta l i) hl 0 (by omega)
  (fun k i _ hi => by
   show g98L1 (k + 1) x0 x1 x2 (l.map ansc) x4 x5 _ = _
   rw [g98L1_eq, List.length_map, if_pos (lss_t hi)]
   refine (elem_anss hi _).trans ?_
   rw [inc_i hi hl, atB_at _ hi]
   generalize g98L1 k x0 x1 x2 (l.map ansc) x4 x5 ((i + 1 : Nat) : Int) = X
   cases i with
   | zero =>
    simp only [d2, d4, d8, d16, s93, Option.bind_some, gtr_z, Bool.false_eq_true, if_false, prevB, Bool.and_true]
    generalize l[0] = t
    repeat' split
    all_goals (simp only [ansOk, regOk, slotOk, CQ] at * <;> grind)
   | succ j =>
    simp only [d2, d4, d8, d16, s93, Option.bind_some, gtr_s, if_true, dec_i (show j + 1 < 2 ^ 63 by omega), elem_anss (show j < l.length by omega), elem_anss hi, prev_at _ hi]
    generalize l[j + 1] = t
    generalize l[j] = u
    unfold lta
    repeat' split
    all_goals (simp only [ansOk, regOk, slotOk, CQ] at * <;> grind))
  (fun k i hi => by show g98L1 (k + 1) x0 x1 x2 (l.map ansc) x4 x5 _ = _; rw [g98L1_eq, List.length_map, if_neg (lss_f hi)])
 rw [Nat.sub_zero, both_at] at this
 exact this
theorem s98L2 (l : List Mark) (hl : l.length < 2 ^ 63) (x0 x1 x3 x4 x5 : List (List AV)) : g98L2 FUEL x0 x1 (l.map markc) x3 x4 x5 0 = if (l.all markOk && ascB ltm l) = true then g98L1 FUEL x0 x1 (l.map markc) x3 x4 x5 0 else some false := by
 have := scan_all (F := fun k i => g98L2 k x0 x1 (l.map markc) x3 x4 x5 i) (n := l.length) (fin := g98L1 FUEL x0 x1 (l.map markc) x3 x4 x5 0) (bad := some false) (fun i => atB markOk l i && prevB ltm l i) hl 0 (by omega)
  (fun k i _ hi => by
   show g98L2 (k + 1) x0 x1 (l.map markc) x3 x4 x5 _ = _
   rw [g98L2_eq, List.length_map, if_pos (lss_t hi)]
   refine (elem_marks hi _).trans ?_
   rw [inc_i hi hl, atB_at _ hi]
   generalize g98L2 k x0 x1 (l.map markc) x3 x4 x5 ((i + 1 : Nat) : Int) = X
   cases i with
   | zero =>
    simp only [d2, d4, d8, d16, s100, s92 l[0].op, Option.bind_some, gtr_z, Bool.false_eq_true, if_false, prevB, Bool.and_true]
    generalize l[0] = t
    repeat' split
    all_goals (simp only [markOk, regOk, slotOk, CQ] at * <;> grind)
   | succ j =>
    simp only [d2, d4, d8, d16, s100, s92 l[j + 1].op, Option.bind_some, gtr_s, if_true, dec_i (show j + 1 < 2 ^ 63 by omega), elem_marks (show j < l.length by omega), elem_marks hi, prev_at _ hi]
    generalize l[j + 1] = t
    generalize l[j] = u
    unfold ltm
    repeat' split
    all_goals (simp only [markOk, regOk, slotOk, CQ] at * <;> grind))
  (fun k i hi => by show g98L2 (k + 1) x0 x1 (l.map markc) x3 x4 x5 _ = _; rw [g98L2_eq, List.length_map, if_neg (lss_f hi)])
 rw [Nat.sub_zero, both_at] at this
 exact this
theorem s98L3 (l : List Req) (hl : l.length < 2 ^ 63) (hp : ∀ x ∈ l, x.src.path.length < 2 ^ 63) (x0 x2 x3 x4 x5 : List (List AV)) : g98L3 FUEL x0 (l.map reqc) x2 x3 x4 x5 0 = if (l.all reqOk && ascB ltp l) = true then g98L2 FUEL x0 (l.map reqc) x2 x3 x4 x5 0 else some false := by
 have := scan_all (F := fun k i => g98L3 k x0 (l.map reqc) x2 x3 x4 x5 i) (n := l.length) (fin := g98L2 FUEL x0 (l.map reqc) x2 x3 x4 x5 0) (bad := some false) (fun i => atB reqOk l i && prevB ltp l i) hl 0 (by omega)
  (fun k i _ hi => by
   show g98L3 (k + 1) x0 (l.map reqc) x2 x3 x4 x5 _ = _
   rw [g98L3_eq, List.length_map, if_pos (lss_t hi)]
   refine (elem_reqs hi _).trans ?_
   rw [inc_i hi hl, atB_at _ hi]
   generalize g98L3 k x0 (l.map reqc) x2 x3 x4 x5 ((i + 1 : Nat) : Int) = X
   cases i with
   | zero =>
    simp only [reqV, d2, d4, d8, d16, s91 _ (hp _ (List.getElem_mem hi)), s29, Option.bind_some, gtr_z, Bool.false_eq_true, if_false, prevB, Bool.and_true]
    generalize l[0] = t
    repeat' split
    all_goals (simp only [regOk, slotOk, CQ] at * <;> grind)
   | succ j =>
    simp only [reqV, d2, d4, d8, d16, s91 _ (hp _ (List.getElem_mem hi)), s29, Option.bind_some, gtr_s, if_true, dec_i (show j + 1 < 2 ^ 63 by omega), elem_reqs (show j < l.length by omega), elem_reqs hi, prev_at _ hi]
    generalize l[j + 1] = t
    generalize l[j] = u
    unfold ltp ltId
    repeat' split
    all_goals (simp only [regOk, slotOk, CQ] at * <;> grind))
  (fun k i hi => by show g98L3 (k + 1) x0 (l.map reqc) x2 x3 x4 x5 _ = _; rw [g98L3_eq, List.length_map, if_neg (lss_f hi)])
 rw [Nat.sub_zero, both_at] at this
 exact this
def stateOk (s : State) : Bool := slotsOk s.slots && (s.pending.all reqOk && ascB ltp s.pending) && (s.marks.all markOk && ascB ltm s.marks) && (s.answers.all ansOk && ascB lta s.answers) && (s.entries.all entOk && ascB lte s.entries) && s.commits.all opOk
structure State.Fits (s : State) : Prop where
 slots : s.slots.length < 2 ^ 63
 pending : s.pending.length < 2 ^ 63
 marks : s.marks.length < 2 ^ 63
 answers : s.answers.length < 2 ^ 63
 entries : s.entries.length < 2 ^ 63
 commits : s.commits.length < 2 ^ 63
 slot : ∀ x ∈ s.slots, x.node.path.length < 2 ^ 63
 req : ∀ x ∈ s.pending, x.src.path.length < 2 ^ 63
 entry : ∀ x ∈ s.entries, x.node.path.length < 2 ^ 63
theorem s127 (s : State) (h : s.Fits) : g127 (s.slots.map slotc) (s.pending.map reqc) (s.marks.map markc) (s.answers.map ansc) (s.entries.map entryc) (idCells s.commits) = some (stateOk s) := by
 rw [g127_eq, s155 _ h.slots h.slot, Option.bind_some, s156 _ h.pending h.req, Option.bind_some, s157 _ h.marks, Option.bind_some, s158 _ h.answers, Option.bind_some, s159 _ h.entries h.entry, Option.bind_some, s118c160 _ h.commits, Option.bind_some]
 unfold stateOk
 cases slotsOk s.slots <;> cases (s.pending.all reqOk && ascB ltp s.pending) <;> cases (s.marks.all markOk && ascB ltm s.marks) <;> cases (s.answers.all ansOk && ascB lta s.answers) <;> cases (s.entries.all entOk && ascB lte s.entries) <;> cases s.commits.all opOk <;> rfl
theorem s98 (s : State) (h : s.Fits) : g98 (s.slots.map slotc) (s.pending.map reqc) (s.marks.map markc) (s.answers.map ansc) (s.entries.map entryc) (idCells s.commits) = some (stateOk s) := by
 have e : s.commits.all (idsOk true) = s.commits.all opOk := by congr
 rw [g98_eq, s144 _ h.slots h.slot, Option.bind_some, s94 _ _ h.commits, Option.bind_some, s98L3 _ h.pending h.req, s98L2 _ h.marks, s98L1 _ h.answers, s98L0 _ h.entries h.entry, e]
 unfold stateOk
 cases slotsOk s.slots <;> cases (s.pending.all reqOk && ascB ltp s.pending) <;> cases (s.marks.all markOk && ascB ltm s.marks) <;> cases (s.answers.all ansOk && ascB lta s.answers) <;> cases (s.entries.all entOk && ascB lte s.entries) <;> cases s.commits.all opOk <;> rfl
end Go.Proofs.YtljejgmcgddppaaGreat
end

section
namespace Go.Proofs.YtljejgmcgddppaaGreat
open Go Go.AM
set_option linter.unusedSimpArgs false
set_option linter.unusedVariables false
set_option maxRecDepth 100000
theorem ty_call {d : Nat} {cs : List AV} (h : TyR Tryz.prog (d + 2) 40 cs) : ∃ c : Call, cs = callc c := by
 rw [TyR] at h
 simp only [Tryz.underlying40] at h
 obtain ⟨ps, rfl, hl, hp⟩ := h
 obtain ⟨p0, p1, p2, p3, p4, p5, p6, p7, p8, p9, p10, p11, rfl⟩ : ∃ p0 p1 p2 p3 p4 p5 p6 p7 p8 p9 p10 p11, ps = [p0, p1, p2, p3, p4, p5, p6, p7, p8, p9, p10, p11] := by
  match ps, hl with
  | [p0, p1, p2, p3, p4, p5, p6, p7, p8, p9, p10, p11], _ => exact ⟨p0, p1, p2, p3, p4, p5, p6, p7, p8, p9, p10, p11, rfl⟩
 obtain ⟨z0, rfl⟩ := ty_int (hp 0 _ _ rfl rfl)
 obtain ⟨z1, rfl⟩ := ty_int (hp 1 _ _ rfl rfl)
 obtain ⟨z2, rfl⟩ := ty_int (hp 2 _ _ rfl rfl)
 obtain ⟨z3, rfl⟩ := ty_int (hp 3 _ _ rfl rfl)
 obtain ⟨z4, rfl⟩ := ty_int (hp 4 _ _ rfl rfl)
 obtain ⟨z5, rfl⟩ := ty_int (hp 5 _ _ rfl rfl)
 obtain ⟨z6, rfl⟩ := ty_int (hp 6 _ _ rfl rfl)
 obtain ⟨z7, rfl⟩ := ty_int (hp 7 _ _ rfl rfl)
 obtain ⟨z8, rfl⟩ := ty_int (hp 8 _ _ rfl rfl)
 obtain ⟨z9, rfl⟩ := ty_int (hp 9 _ _ rfl rfl)
 obtain ⟨z10, rfl⟩ := ty_int (hp 10 _ _ rfl rfl)
 obtain ⟨z11, rfl⟩ := ty_int (hp 11 _ _ rfl rfl)
 exact ⟨⟨z0, z1, z2, z3, z4, z5, z6, z7, z8, z9, z10, z11⟩, rfl⟩
theorem ty_err {d : Nat} {cs : List AV} (h : TyR Tryz.prog (d + 1) 38 cs) : ∃ z, cs = [I z] := by
 simp only [TyR, Tryz.underlying38] at h
 obtain ⟨z, h, _⟩ := h
 exact ⟨z, h⟩
theorem le63 {n : Nat} (h : n ≤ maxLen) : n < 2 ^ 63 := by
 have : maxLen + 1 = 2 ^ 63 := by decide
 omega
theorem ty_node {d : Nat} {cs : List AV} (h : TyR Tryz.prog (d + 4) 44 cs) : ∃ n : Node, cs = nodec n ∧ n.path.length < 2 ^ 63 := by
 rw [TyR] at h
 simp only [Tryz.underlying44] at h
 obtain ⟨ps, rfl, hl, hp⟩ := h
 obtain ⟨p0, p1, p2, rfl⟩ : ∃ p0 p1 p2, ps = [p0, p1, p2] := by
  match ps, hl with
  | [p0, p1, p2], _ => exact ⟨p0, p1, p2, rfl⟩
 obtain ⟨i, rfl⟩ := ty_id (hp 0 _ _ rfl rfl)
 obtain ⟨l, rfl, hl2⟩ := ty_ids (hp 1 _ _ rfl rfl)
 obtain ⟨k, b, s, r, w, lv, dv, rfl⟩ := ty_cap (hp 2 _ _ rfl rfl)
 exact ⟨⟨i, l, ⟨k, b, s, r, w, lv, dv⟩⟩, rfl, le63 hl2⟩
theorem ty_req {d : Nat} {cs : List AV} (h : TyR Tryz.prog (d + 5) 46 cs) : ∃ r : Req, cs = reqc r ∧ r.src.path.length < 2 ^ 63 := by
 rw [TyR] at h
 simp only [Tryz.underlying46] at h
 obtain ⟨ps, rfl, hl, hp⟩ := h
 obtain ⟨p0, p1, p2, p3, p4, rfl⟩ : ∃ p0 p1 p2 p3 p4, ps = [p0, p1, p2, p3, p4] := by
  match ps, hl with
  | [p0, p1, p2, p3, p4], _ => exact ⟨p0, p1, p2, p3, p4, rfl⟩
 obtain ⟨i, rfl⟩ := ty_id (hp 0 _ _ rfl rfl)
 obtain ⟨c, rfl⟩ := ty_call (hp 1 _ _ rfl rfl)
 obtain ⟨a, rfl⟩ := ty_int (hp 2 _ _ rfl rfl)
 obtain ⟨b, rfl⟩ := ty_int (hp 3 _ _ rfl rfl)
 obtain ⟨n, rfl, hn⟩ := ty_node (hp 4 _ _ rfl rfl)
 exact ⟨⟨i, c, a, b, n⟩, rfl, hn⟩
theorem ty_slot {d : Nat} {cs : List AV} (h : TyR Tryz.prog (d + 5) 60 cs) : ∃ s : Slot, cs = slotc s ∧ s.node.path.length < 2 ^ 63 := by
 rw [TyR] at h
 simp only [Tryz.underlying60] at h
 obtain ⟨ps, rfl, hl, hp⟩ := h
 obtain ⟨p0, p1, p2, rfl⟩ : ∃ p0 p1 p2, ps = [p0, p1, p2] := by
  match ps, hl with
  | [p0, p1, p2], _ => exact ⟨p0, p1, p2, rfl⟩
 obtain ⟨n, rfl, hn⟩ := ty_node (hp 0 _ _ rfl rfl)
 obtain ⟨a, rfl⟩ := ty_int (hp 1 _ _ rfl rfl)
 obtain ⟨i, rfl⟩ := ty_id (hp 2 _ _ rfl rfl)
 exact ⟨⟨n, a, i⟩, rfl, hn⟩
theorem ty_entry {d : Nat} {cs : List AV} (h : TyR Tryz.prog (d + 5) 88 cs) : ∃ s : Entry, cs = entryc s ∧ s.node.path.length < 2 ^ 63 := by
 rw [TyR] at h
 simp only [Tryz.underlying88] at h
 obtain ⟨ps, rfl, hl, hp⟩ := h
 obtain ⟨p0, p1, p2, rfl⟩ : ∃ p0 p1 p2, ps = [p0, p1, p2] := by
  match ps, hl with
  | [p0, p1, p2], _ => exact ⟨p0, p1, p2, rfl⟩
 obtain ⟨a, rfl⟩ := ty_int (hp 0 _ _ rfl rfl)
 obtain ⟨b, rfl⟩ := ty_int (hp 1 _ _ rfl rfl)
 obtain ⟨n, rfl, hn⟩ := ty_node (hp 2 _ _ rfl rfl)
 exact ⟨⟨a, b, n⟩, rfl, hn⟩
theorem ty_mark {d : Nat} {cs : List AV} (h : TyR Tryz.prog (d + 5) 62 cs) : ∃ m : Mark, cs = markc m := by
 rw [TyR] at h
 simp only [Tryz.underlying62] at h
 obtain ⟨ps, rfl, hl, hp⟩ := h
 obtain ⟨p0, p1, rfl⟩ : ∃ p0 p1, ps = [p0, p1] := by
  match ps, hl with
  | [p0, p1], _ => exact ⟨p0, p1, rfl⟩
 obtain ⟨a, rfl⟩ := ty_int (hp 0 _ _ rfl rfl)
 obtain ⟨i, rfl⟩ := ty_id (hp 1 _ _ rfl rfl)
 exact ⟨⟨a, i⟩, rfl⟩
theorem ty_ans {d : Nat} {cs : List AV} (h : TyR Tryz.prog (d + 5) 91 cs) : ∃ m : Ans, cs = ansc m := by
 rw [TyR] at h
 simp only [Tryz.underlying91] at h
 obtain ⟨ps, rfl, hl, hp⟩ := h
 obtain ⟨p0, p1, rfl⟩ : ∃ p0 p1, ps = [p0, p1] := by
  match ps, hl with
  | [p0, p1], _ => exact ⟨p0, p1, rfl⟩
 obtain ⟨a, rfl⟩ := ty_int (hp 0 _ _ rfl rfl)
 obtain ⟨b, rfl⟩ := ty_err (hp 1 _ _ rfl rfl)
 exact ⟨⟨a, b⟩, rfl⟩
theorem cells60 : Tryz.prog.cellsOf 60 = 15 := by kernel_rfl
theorem cells46 : Tryz.prog.cellsOf 46 = 28 := by kernel_rfl
theorem cells62 : Tryz.prog.cellsOf 62 = 4 := by kernel_rfl
theorem cells91 : Tryz.prog.cellsOf 91 = 2 := by kernel_rfl
theorem cells88 : Tryz.prog.cellsOf 88 = 13 := by kernel_rfl
theorem ty_slots {d : Nat} {cs : List AV} (h : TyR Tryz.prog (d + 6) 28 cs) : ∃ l : List Slot, cs = [.slice false 15 (l.map slotc)] ∧ l.length < 2 ^ 63 ∧ ∀ x ∈ l, x.node.path.length < 2 ^ 63 := by
 rw [TyR] at h
 simp only [Tryz.underlying28, cells60] at h
 obtain ⟨xs, h1, h2, h3⟩ := h
 obtain ⟨l, rfl, h5⟩ := list_lift (f := slotc) (p := fun x => x.node.path.length < 2 ^ 63) xs fun y hy => ty_slot (h3 y hy)
 exact ⟨l, h1, le63 (by simpa using h2), h5⟩
theorem ty_reqs {d : Nat} {cs : List AV} (h : TyR Tryz.prog (d + 6) 29 cs) : ∃ l : List Req, cs = [.slice false 28 (l.map reqc)] ∧ l.length < 2 ^ 63 ∧ ∀ x ∈ l, x.src.path.length < 2 ^ 63 := by
 rw [TyR] at h
 simp only [Tryz.underlying29, cells46] at h
 obtain ⟨xs, h1, h2, h3⟩ := h
 obtain ⟨l, rfl, h5⟩ := list_lift (f := reqc) (p := fun x => x.src.path.length < 2 ^ 63) xs fun y hy => ty_req (h3 y hy)
 exact ⟨l, h1, le63 (by simpa using h2), h5⟩
theorem ty_entries {d : Nat} {cs : List AV} (h : TyR Tryz.prog (d + 6) 25 cs) : ∃ l : List Entry, cs = [.slice false 13 (l.map entryc)] ∧ l.length < 2 ^ 63 ∧ ∀ x ∈ l, x.node.path.length < 2 ^ 63 := by
 rw [TyR] at h
 simp only [Tryz.underlying25, cells88] at h
 obtain ⟨xs, h1, h2, h3⟩ := h
 obtain ⟨l, rfl, h5⟩ := list_lift (f := entryc) (p := fun x => x.node.path.length < 2 ^ 63) xs fun y hy => ty_entry (h3 y hy)
 exact ⟨l, h1, le63 (by simpa using h2), h5⟩
theorem ty_marks {d : Nat} {cs : List AV} (h : TyR Tryz.prog (d + 6) 30 cs) : ∃ l : List Mark, cs = [.slice false 4 (l.map markc)] ∧ l.length < 2 ^ 63 := by
 rw [TyR] at h
 simp only [Tryz.underlying30, cells62] at h
 obtain ⟨xs, h1, h2, h3⟩ := h
 obtain ⟨l, rfl, h5⟩ := list_lift (f := markc) (p := fun _ => True) xs fun y hy => (ty_mark (h3 y hy)).elim fun a h => ⟨a, h, trivial⟩
 exact ⟨l, h1, le63 (by simpa using h2)⟩
theorem ty_anss {d : Nat} {cs : List AV} (h : TyR Tryz.prog (d + 6) 31 cs) : ∃ l : List Ans, cs = [.slice false 2 (l.map ansc)] ∧ l.length < 2 ^ 63 := by
 rw [TyR] at h
 simp only [Tryz.underlying31, cells91] at h
 obtain ⟨xs, h1, h2, h3⟩ := h
 obtain ⟨l, rfl, h5⟩ := list_lift (f := ansc) (p := fun _ => True) xs fun y hy => (ty_ans (h3 y hy)).elim fun a h => ⟨a, h, trivial⟩
 exact ⟨l, h1, le63 (by simpa using h2)⟩
def statec (s : State) : List AV := [.slice false 15 (s.slots.map slotc), .slice false 28 (s.pending.map reqc), .slice false 4 (s.marks.map markc), .slice false 2 (s.answers.map ansc), .slice false 13 (s.entries.map entryc), .slice false 3 (idCells s.commits)]
theorem ty_state {d : Nat} {cs : List AV} (h : TyR Tryz.prog (d + 7) 34 cs) : ∃ s : State, cs = statec s ∧ s.Fits := by
 rw [TyR] at h
 simp only [Tryz.underlying34] at h
 obtain ⟨ps, rfl, hl, hp⟩ := h
 obtain ⟨p0, p1, p2, p3, p4, p5, rfl⟩ : ∃ p0 p1 p2 p3 p4 p5, ps = [p0, p1, p2, p3, p4, p5] := by
  match ps, hl with
  | [p0, p1, p2, p3, p4, p5], _ => exact ⟨p0, p1, p2, p3, p4, p5, rfl⟩
 obtain ⟨a, rfl, a1, a2⟩ := ty_slots (hp 0 _ _ rfl rfl)
 obtain ⟨b, rfl, b1, b2⟩ := ty_reqs (hp 1 _ _ rfl rfl)
 obtain ⟨c, rfl, c1⟩ := ty_marks (hp 2 _ _ rfl rfl)
 obtain ⟨d, rfl, d1⟩ := ty_anss (hp 3 _ _ rfl rfl)
 obtain ⟨e, rfl, e1, e2⟩ := ty_entries (hp 4 _ _ rfl rfl)
 obtain ⟨f, rfl, f1⟩ := ty_ids (hp 5 _ _ rfl rfl)
 exact ⟨⟨a, b, c, d, e, f⟩, rfl, ⟨a1, b1, c1, d1, e1, le63 f1, a2, b2, e2⟩⟩
end Go.Proofs.YtljejgmcgddppaaGreat
end

section
namespace Go.Proofs.YtljejgmcgddppaaGreat
open Go Go.AM
set_option linter.unusedSimpArgs false
set_option linter.unusedVariables false
set_option maxRecDepth 100000
theorem ints_len (l : List Int) : (intCells l).length = l.length := by simp [intCells]
theorem ints_take (l : List Int) (n : Nat) : (intCells l).take n = intCells (l.take n) := by simp [intCells, List.map_take]
def numOk (z : Int) : Bool := decide (0 ≤ z ∧ z ≤ 1073741824)
def moveOk (m : Move) : Bool := regOk m.region && coreOk m.to
theorem s66 (z : Int) : g66 z = some (numOk z) := by
 rw [g66_eq]
 repeat' split
 all_goals (refine congrArg some ?_; rw [bool_iff]; simp only [numOk, CQ] at *; omega)
theorem s89 (z : Int) : g89 z = some (numOk z) := by
 rw [g89_eq]
 repeat' split
 all_goals (refine congrArg some ?_; rw [bool_iff]; simp only [numOk, CQ] at *; omega)
theorem s115 (x : Node) (hx : x.path.length < 2 ^ 63) : g115 x.id.core x.id.op x.id.part (idCells x.path) x.cap.kind x.cap.base x.cap.bits x.cap.rights x.cap.width x.cap.level x.cap.device = some (!nodeOk x) := by
 rw [g115_eq, s116 x hx, Option.bind_some]
theorem s149c115 (l : List Node) (hl : l.length < 2 ^ 63) (hp : ∀ x ∈ l, x.path.length < 2 ^ 63) : ∃ r, g149c115 (l.map nodec) = some r ∧ cop .geq r 0 = !(l.all nodeOk) := by
 rw [g149c115_eq, List.length_map]
 have := scan_idx (F := fun k i => g149c115L0 k (l.map nodec) (l.length : Int) i) (n := l.length) (fun i => !atB nodeOk l i) hl
  (fun k i hi => by
   show g149c115L0 (k + 1) _ _ _ = _
   rw [g149c115L0_eq, if_pos (lss_t hi)]
   refine (elem_nodes hi _).trans ?_
   simp only [nodeV, d2, d4, d8, d16]
   rw [s115 l[i] (hp _ (List.getElem_mem hi)), Option.bind_some, inc_i hi hl, atB_at _ hi])
  (fun k i hi => by show g149c115L0 (k + 1) _ _ _ = _; rw [g149c115L0_eq, if_neg (lss_f hi)])
 rw [any_at] at this
 exact this
theorem s114c115 (l : List Node) (hl : l.length < 2 ^ 63) (hp : ∀ x ∈ l, x.path.length < 2 ^ 63) : g114c115 (l.map nodec) = some (!(l.all nodeOk)) := by
 obtain ⟨r, h1, h2⟩ := s149c115 l hl hp
 rw [g114c115_eq, h1, Option.bind_some, h2]
theorem s119 (x : Id) : g119 x.core x.op x.part = some (!idOk x) := by
 rw [g119_eq, s120, Option.bind_some, id_eta]
theorem s151c119 (l : List Id) (hl : l.length < 2 ^ 63) : ∃ r, g151c119 (idCells l) = some r ∧ cop .geq r 0 = !(l.all idOk) := by
 rw [g151c119_eq, ids_len]
 have := scan_idx (F := fun k i => g151c119L0 k (idCells l) (l.length : Int) i) (n := l.length) (fun i => !atB idOk l i) hl
  (fun k i hi => by
   show g151c119L0 (k + 1) _ _ _ = _
   rw [g151c119L0_eq, if_pos (lss_t hi)]
   refine (elem_ids hi _).trans ?_
   dsimp only
   rw [s119 l[i], Option.bind_some, inc_i hi hl, atB_at _ hi])
  (fun k i hi => by show g151c119L0 (k + 1) _ _ _ = _; rw [g151c119L0_eq, if_neg (lss_f hi)])
 rw [any_at] at this
 exact this
theorem s118c119 (l : List Id) (hl : l.length < 2 ^ 63) : g118c119 (idCells l) = some (!(l.all idOk)) := by
 obtain ⟨r, h1, h2⟩ := s151c119 l hl
 rw [g118c119_eq, h1, Option.bind_some, h2]
theorem s122 (x : Int) : g122 x = some (!coreOk x) := by
 rw [g122_eq, s67, Option.bind_some]
theorem s152c122 (l : List Int) (hl : l.length < 2 ^ 63) : ∃ r, g152c122 (intCells l) = some r ∧ cop .geq r 0 = !(l.all coreOk) := by
 rw [g152c122_eq, ints_len]
 have := scan_idx (F := fun k i => g152c122L0 k (intCells l) (l.length : Int) i) (n := l.length) (fun i => !atB coreOk l i) hl
  (fun k i hi => by
   show g152c122L0 (k + 1) _ _ _ = _
   rw [g152c122L0_eq, if_pos (lss_t hi)]
   refine (elem_ints hi _).trans ?_
   skip
   rw [s122 l[i], Option.bind_some, inc_i hi hl, atB_at _ hi])
  (fun k i hi => by show g152c122L0 (k + 1) _ _ _ = _; rw [g152c122L0_eq, if_neg (lss_f hi)])
 rw [any_at] at this
 exact this
theorem s121c122 (l : List Int) (hl : l.length < 2 ^ 63) : g121c122 (intCells l) = some (!(l.all coreOk)) := by
 obtain ⟨r, h1, h2⟩ := s152c122 l hl
 rw [g121c122_eq, h1, Option.bind_some, h2]
theorem s154 (x : Int) : g154 x = some (!coreOk x) := by
 rw [g154_eq, s67, Option.bind_some]
theorem s152c154 (l : List Int) (hl : l.length < 2 ^ 63) : ∃ r, g152c154 (intCells l) = some r ∧ cop .geq r 0 = !(l.all coreOk) := by
 rw [g152c154_eq, ints_len]
 have := scan_idx (F := fun k i => g152c154L0 k (intCells l) (l.length : Int) i) (n := l.length) (fun i => !atB coreOk l i) hl
  (fun k i hi => by
   show g152c154L0 (k + 1) _ _ _ = _
   rw [g152c154L0_eq, if_pos (lss_t hi)]
   refine (elem_ints hi _).trans ?_
   skip
   rw [s154 l[i], Option.bind_some, inc_i hi hl, atB_at _ hi])
  (fun k i hi => by show g152c154L0 (k + 1) _ _ _ = _; rw [g152c154L0_eq, if_neg (lss_f hi)])
 rw [any_at] at this
 exact this
theorem s121c154 (l : List Int) (hl : l.length < 2 ^ 63) : g121c154 (intCells l) = some (!(l.all coreOk)) := by
 obtain ⟨r, h1, h2⟩ := s152c154 l hl
 rw [g121c154_eq, h1, Option.bind_some, h2]
theorem s129 (x : Move) : g129 x.region x.to = some (!moveOk x) := by
 rw [g129_eq, s110, s67, Option.bind_some, Option.bind_some]
 unfold moveOk
 cases regOk x.region <;> rfl
theorem s161c129 (l : List Move) (hl : l.length < 2 ^ 63) : ∃ r, g161c129 (l.map movec) = some r ∧ cop .geq r 0 = !(l.all moveOk) := by
 rw [g161c129_eq, List.length_map]
 have := scan_idx (F := fun k i => g161c129L0 k (l.map movec) (l.length : Int) i) (n := l.length) (fun i => !atB moveOk l i) hl
  (fun k i hi => by
   show g161c129L0 (k + 1) _ _ _ = _
   rw [g161c129L0_eq, if_pos (lss_t hi)]
   refine (elem_moves hi _).trans ?_
   dsimp only
   rw [s129 l[i], Option.bind_some, inc_i hi hl, atB_at _ hi])
  (fun k i hi => by show g161c129L0 (k + 1) _ _ _ = _; rw [g161c129L0_eq, if_neg (lss_f hi)])
 rw [any_at] at this
 exact this
theorem s128c129 (l : List Move) (hl : l.length < 2 ^ 63) : g128c129 (l.map movec) = some (!(l.all moveOk)) := by
 obtain ⟨r, h1, h2⟩ := s161c129 l hl
 rw [g128c129_eq, h1, Option.bind_some, h2]
def ltI (a b : Int) : Bool := decide (a < b)
def coresOk (l : List Int) : Bool := l.all coreOk && ascB ltI l
theorem s95 (l : List Int) (hl : l.length < 2 ^ 63) : g95 (intCells l) = some (coresOk l) := by
 rw [g95_eq]
 have := scan_all (F := fun k i => g95L0 k (intCells l) i) (n := l.length) (fin := some true) (bad := some false) (fun i => atB coreOk l i && prevB ltI l i) hl 0 (by omega)
  (fun k i _ hi => by
   show g95L0 (k + 1) (intCells l) _ = _
   rw [g95L0_eq, ints_len, if_pos (lss_t hi)]
   refine (elem_ints hi _).trans ?_
   rw [inc_i hi hl, atB_at _ hi]
   generalize g95L0 k (intCells l) ((i + 1 : Nat) : Int) = X
   cases i with
   | zero =>
    simp only [s90, Option.bind_some, gtr_z, Bool.false_eq_true, if_false, prevB, Bool.and_true]
    cases coreOk l[0] <;> rfl
   | succ j =>
    simp only [s90, Option.bind_some, gtr_s, if_true, dec_i (show j + 1 < 2 ^ 63 by omega), elem_ints (show j < l.length by omega), elem_ints hi, prev_at _ hi]
    generalize l[j + 1] = t
    generalize l[j] = u
    unfold ltI
    repeat' split
    all_goals (simp only [CQ] at * <;> grind))
  (fun k i hi => by show g95L0 (k + 1) (intCells l) _ = _; rw [g95L0_eq, ints_len, if_neg (lss_f hi)])
 rw [Nat.sub_zero, both_at] at this
 refine Eq.trans this ?_
 unfold coresOk
 cases (l.all coreOk && ascB ltI l) <;> rfl
theorem s99 (l : List Move) (hl : l.length < 2 ^ 63) : g99 (l.map movec) = some (l.all moveOk && decide (l.length ≤ 16)) := by
 rw [g99_eq]
 have := scan_all (F := fun k i => g99L0 k (l.map movec) i) (n := l.length) (fin := some (cop .leq (l.length : Int) 16)) (bad := some false) (atB moveOk l) hl 0 (by omega)
  (fun k i _ hi => by
   show g99L0 (k + 1) (l.map movec) _ = _
   rw [g99L0_eq, List.length_map, if_pos (lss_t hi)]
   refine (elem_moves hi _).trans ?_
   rw [inc_i hi hl, atB_at _ hi]
   generalize g99L0 k (l.map movec) ((i + 1 : Nat) : Int) = X
   simp only [s100, s90, Option.bind_some, elem_moves hi]
   generalize l[i] = t
   unfold moveOk
   cases regOk t.region <;> cases coreOk t.to <;> rfl)
  (fun k i hi => by show g99L0 (k + 1) (l.map movec) _ = _; rw [g99L0_eq, List.length_map, if_neg (lss_f hi)])
 rw [Nat.sub_zero, all_at] at this
 refine Eq.trans this ?_
 have e : cop .leq (l.length : Int) 16 = decide (l.length ≤ 16) := by rw [bool_iff]; simp only [CQ]; omega
 rw [e]
 cases l.all moveOk <;> rfl
theorem s168 (l : List Int) (hl : l.length < 2 ^ 63) (a : Int) : ∃ r, g168 (intCells l) a = some r ∧ cop .geq r 0 = l.any (fun x => decide (a = x)) := by
 rw [g168_eq, ints_len]
 have := scan_idx (F := fun k i => g168L0 k (intCells l) a (l.length : Int) i) (n := l.length) (fun i => !atB (fun x => !decide (a = x)) l i) hl
  (fun k i hi => by
   show g168L0 (k + 1) _ _ _ _ = _
   rw [g168L0_eq, if_pos (lss_t hi)]
   refine (elem_ints hi _).trans ?_
   rw [inc_i hi hl, atB_at _ hi, Bool.not_not]
   rfl)
  (fun k i hi => by show g168L0 (k + 1) _ _ _ _ = _; rw [g168L0_eq, if_neg (lss_f hi)])
 rw [any_at] at this
 have e : (!(l.all fun x => !decide (a = x))) = l.any (fun x => decide (a = x)) := by
  rw [List.any_eq_not_all_not]
 rw [e] at this
 exact this
theorem s153 (l : List Int) (hl : l.length < 2 ^ 63) (a : Int) : g153 (intCells l) a = some (l.any (fun x => decide (a = x))) := by
 obtain ⟨r, h1, h2⟩ := s168 l hl a
 rw [g153_eq, h1, Option.bind_some, h2]
theorem s55 (l : List Int) (hl : l.length < 2 ^ 63) (a : Int) : g55 (intCells l) a = some (l.any (fun x => decide (a = x))) := by
 rw [g55_eq]
 have := scan_all (F := fun k i => g55L0 k (intCells l) a i) (n := l.length) (fin := some false) (bad := some true) (atB (fun x => !decide (a = x)) l) hl 0 (by omega)
  (fun k i _ hi => by
   show g55L0 (k + 1) (intCells l) _ _ = _
   rw [g55L0_eq, ints_len, if_pos (lss_t hi)]
   refine (elem_ints hi _).trans ?_
   rw [inc_i hi hl, atB_at _ hi]
   generalize g55L0 k (intCells l) a ((i + 1 : Nat) : Int) = X
   generalize l[i] = t
   by_cases h : a = t
   ·rw [if_pos (by simp only [CQ]; exact h.symm), if_neg (by simp [h])]
   ·rw [if_neg (by simp only [CQ]; exact fun he => h he.symm), if_pos (by simp [h])])
  (fun k i hi => by show g55L0 (k + 1) (intCells l) _ _ = _; rw [g55L0_eq, ints_len, if_neg (lss_f hi)])
 rw [Nat.sub_zero, all_at] at this
 refine Eq.trans this ?_
 rw [List.any_eq_not_all_not]
 cases l.all (fun x => !decide (a = x)) <;> rfl
def newAt (l : List Int) (i : Nat) : Bool := match l[i]? with | some x => !((l.take i).any (fun y => decide (x = y))) | none => true
def viewOk (v : View) : Bool := numOk v.number && decide (v.members.length ≤ 32) && decide (v.owners.length ≤ 16) && (List.range' 0 v.members.length).all (fun i => atB coreOk v.members i && newAt v.members i) && v.owners.all coreOk
theorem new_at {l : List Int} {i : Nat} (hi : i < l.length) : newAt l i = !((l.take i).any (fun y => decide (l[i] = y))) := by
 unfold newAt; rw [List.getElem?_eq_getElem hi]
theorem s126 (v : View) (h1 : v.members.length < 2 ^ 63) (h2 : v.owners.length < 2 ^ 63) : g126 v.number (intCells v.members) (intCells v.owners) = some (viewOk v) := by
 rw [g126_eq, ints_len, ints_len, s66, Option.bind_some]
 have := scan_all (F := fun k i => g126L0 k v.number (intCells v.members) (intCells v.owners) (intCells v.members) (v.members.length : Int) i) (n := v.members.length) (fin := some (v.owners.all coreOk)) (bad := some false) (fun i => atB coreOk v.members i && newAt v.members i) h1 0 (by omega)
  (fun k i _ hi => by
   show g126L0 (k + 1) _ _ _ _ _ _ = _
   rw [g126L0_eq, if_pos (lss_t hi)]
   refine (elem_ints hi _).trans ?_
   rw [s67, Option.bind_some, reqK_pos (by omega), reqK_pos (by rw [ints_len]; omega), Int.toNat_natCast, ints_take, s153 _ (by rw [List.length_take]; omega), Option.bind_some, inc_i hi h1, atB_at _ hi, new_at hi]
   cases coreOk v.members[i] <;> cases (v.members.take i).any (fun y => decide (v.members[i] = y)) <;> rfl)
  (fun k i hi => by
   show g126L0 (k + 1) _ _ _ _ _ _ = _
   rw [g126L0_eq, if_neg (lss_f hi), s121c154 _ h2, Option.bind_some, Bool.not_not])
 rw [Nat.sub_zero] at this
 have this : g126L0 FUEL v.number (intCells v.members) (intCells v.owners) (intCells v.members) (v.members.length : Int) 0 = _ := this
 rw [this]
 unfold viewOk
 by_cases a1 : v.members.length ≤ 32
 ·by_cases a2 : v.owners.length ≤ 16
  ·rw [if_neg (show ¬ (cop .gtr (v.members.length : Int) 32) = true by simp only [CQ]; omega), if_neg (show ¬ (cop .gtr (v.owners.length : Int) 16) = true by simp only [CQ]; omega), decide_eq_true a1, decide_eq_true a2]
   cases numOk v.number <;> cases (List.range' 0 v.members.length).all (fun i => atB coreOk v.members i && newAt v.members i) <;> rfl
  ·rw [if_neg (show ¬ (cop .gtr (v.members.length : Int) 32) = true by simp only [CQ]; omega), if_pos (show (cop .gtr (v.owners.length : Int) 16) = true by simp only [CQ]; omega), decide_eq_false a2]
   cases numOk v.number <;> simp
 ·rw [if_pos (show (cop .gtr (v.members.length : Int) 32) = true by simp only [CQ]; omega), decide_eq_false a1]
  cases numOk v.number <;> simp
theorem s97 (v : View) (h1 : v.members.length < 2 ^ 63) (h2 : v.owners.length < 2 ^ 63) : g97 v.number (intCells v.members) (intCells v.owners) = some (viewOk v) := by
 rw [g97_eq, ints_len, ints_len, s89, Option.bind_some]
 have l0 := scan_all (F := fun k i => g97L0 k v.number (intCells v.members) (intCells v.owners) i) (n := v.owners.length) (fin := some true) (bad := some false) (atB coreOk v.owners) h2 0 (by omega)
  (fun k i _ hi => by
   show g97L0 (k + 1) _ _ _ _ = _
   rw [g97L0_eq, ints_len, if_pos (lss_t hi)]
   refine (elem_ints hi _).trans ?_
   rw [s90, Option.bind_some, inc_i hi h2, atB_at _ hi]
   cases coreOk v.owners[i] <;> rfl)
  (fun k i hi => by
   show g97L0 (k + 1) _ _ _ _ = _
   rw [g97L0_eq, ints_len, if_neg (lss_f hi)])
 rw [Nat.sub_zero, all_at] at l0
 have l0 : g97L0 FUEL v.number (intCells v.members) (intCells v.owners) 0 = _ := l0
 have := scan_all (F := fun k i => g97L1 k v.number (intCells v.members) (intCells v.owners) i) (n := v.members.length) (fin := some (v.owners.all coreOk)) (bad := some false) (fun i => atB coreOk v.members i && newAt v.members i) h1 0 (by omega)
  (fun k i _ hi => by
   show g97L1 (k + 1) _ _ _ _ = _
   rw [g97L1_eq, ints_len, if_pos (lss_t hi)]
   refine (elem_ints hi _).trans ?_
   rw [s90, Option.bind_some, reqK_pos (by omega), reqK_pos (by omega), Int.toNat_natCast, ints_take, inc_i hi h1, atB_at _ hi, new_at hi]
   simp only [elem_ints hi]
   rw [s55 _ (by rw [List.length_take]; omega), Option.bind_some]
   cases coreOk v.members[i] <;> cases (v.members.take i).any (fun y => decide (v.members[i] = y)) <;> rfl)
  (fun k i hi => by
   show g97L1 (k + 1) _ _ _ _ = _
   rw [g97L1_eq, ints_len, if_neg (lss_f hi), l0]
   cases v.owners.all coreOk <;> rfl)
 rw [Nat.sub_zero] at this
 have this : g97L1 FUEL v.number (intCells v.members) (intCells v.owners) 0 = _ := this
 rw [this]
 unfold viewOk
 by_cases a1 : v.members.length ≤ 32
 ·by_cases a2 : v.owners.length ≤ 16
  ·rw [if_neg (show ¬ (cop .gtr (v.members.length : Int) 32) = true by simp only [CQ]; omega), if_neg (show ¬ (cop .gtr (v.owners.length : Int) 16) = true by simp only [CQ]; omega), decide_eq_true a1, decide_eq_true a2]
   cases numOk v.number <;> cases (List.range' 0 v.members.length).all (fun i => atB coreOk v.members i && newAt v.members i) <;> rfl
  ·rw [if_neg (show ¬ (cop .gtr (v.members.length : Int) 32) = true by simp only [CQ]; omega), if_pos (show (cop .gtr (v.owners.length : Int) 16) = true by simp only [CQ]; omega), decide_eq_false a2]
   cases numOk v.number <;> simp
 ·rw [if_pos (show (cop .gtr (v.members.length : Int) 32) = true by simp only [CQ]; omega), decide_eq_false a1]
  cases numOk v.number <;> simp
structure View.Fits (v : View) : Prop where
 members : v.members.length < 2 ^ 63
 owners : v.owners.length < 2 ^ 63
structure Report.Fits (r : Report) : Prop where
 view : r.view.Fits
 state : r.state.Fits
 next : r.next.Fits
 proposal : r.proposal.Fits
def repOk (r : Report) : Bool := coreOk r.core && viewOk r.view && stateOk r.state && viewOk r.next && stateOk r.proposal
theorem s125 (r : Report) (h : r.Fits) : g125 r.core r.view.number (intCells r.view.members) (intCells r.view.owners) (r.state.slots.map slotc) (r.state.pending.map reqc) (r.state.marks.map markc) (r.state.answers.map ansc) (r.state.entries.map entryc) (idCells r.state.commits) r.ready r.next.number (intCells r.next.members) (intCells r.next.owners) (r.proposal.slots.map slotc) (r.proposal.pending.map reqc) (r.proposal.marks.map markc) (r.proposal.answers.map ansc) (r.proposal.entries.map entryc) (idCells r.proposal.commits) = some (repOk r) := by
 rw [g125_eq, s67, Option.bind_some, s126 _ h.view.members h.view.owners, Option.bind_some, s127 _ h.state, Option.bind_some, s126 _ h.next.members h.next.owners, Option.bind_some, s127 _ h.proposal, Option.bind_some]
 unfold repOk
 cases coreOk r.core <;> cases viewOk r.view <;> cases stateOk r.state <;> cases viewOk r.next <;> cases stateOk r.proposal <;> rfl
theorem s96 (r : Report) (h : r.Fits) : g96 r.core r.view.number (intCells r.view.members) (intCells r.view.owners) (r.state.slots.map slotc) (r.state.pending.map reqc) (r.state.marks.map markc) (r.state.answers.map ansc) (r.state.entries.map entryc) (idCells r.state.commits) r.ready r.next.number (intCells r.next.members) (intCells r.next.owners) (r.proposal.slots.map slotc) (r.proposal.pending.map reqc) (r.proposal.marks.map markc) (r.proposal.answers.map ansc) (r.proposal.entries.map entryc) (idCells r.proposal.commits) = some (repOk r) := by
 rw [g96_eq, s90, Option.bind_some, s97 _ h.view.members h.view.owners, Option.bind_some, s98 _ h.state, Option.bind_some, s97 _ h.next.members h.next.owners, Option.bind_some, s98 _ h.proposal, Option.bind_some]
 unfold repOk
 cases coreOk r.core <;> cases viewOk r.view <;> cases stateOk r.state <;> cases viewOk r.next <;> cases stateOk r.proposal <;> rfl
end Go.Proofs.YtljejgmcgddppaaGreat
end

section
namespace Go.Proofs.YtljejgmcgddppaaGreat
open Go Go.AM
set_option linter.unusedSimpArgs false
set_option linter.unusedVariables false
set_option maxRecDepth 100000
structure Msg where
 kind : Int
 view : Int
 frm : Int
 to : Int
 round : Int
 region : Int
 slot : Int
 op : Id
 err : Int
 settled : Bool
 req : Req
 ids : List Id
 nodes : List Node
 cores : List Int
 moves : List Move
 base : Int
 next : View
 state : State
 report : Report
structure Msg.Fits (m : Msg) : Prop where
 req : m.req.src.path.length < 2 ^ 63
 ids : m.ids.length < 2 ^ 63
 nodes : m.nodes.length < 2 ^ 63
 node : ∀ x ∈ m.nodes, x.path.length < 2 ^ 63
 cores : m.cores.length < 2 ^ 63
 moves : m.moves.length < 2 ^ 63
 next : m.next.Fits
 state : m.state.Fits
 report : m.report.Fits
def msgT (m : Msg) : Qt2 := (m.kind, m.view, m.frm, m.to, m.round, m.region, m.slot, m.op.core, m.op.op, m.op.part, m.err, m.settled, m.req.id.core, m.req.id.op, m.req.id.part, m.req.call.kind, m.req.call.slot, m.req.call.dest, m.req.call.core, m.req.call.mask, m.req.call.object, m.req.call.bits, m.req.call.level, m.req.call.offset, m.req.call.count, m.req.call.index, m.req.call.addr, m.req.region, m.req.width, m.req.src.id.core, m.req.src.id.op, m.req.src.id.part, (idCells m.req.src.path), m.req.src.cap.kind, m.req.src.cap.base, m.req.src.cap.bits, m.req.src.cap.rights, m.req.src.cap.width, m.req.src.cap.level, m.req.src.cap.device, (idCells m.ids), (m.nodes.map nodec), (intCells m.cores), (m.moves.map movec), m.base, m.next.number, (intCells m.next.members), (intCells m.next.owners), (m.state.slots.map slotc), (m.state.pending.map reqc), (m.state.marks.map markc), (m.state.answers.map ansc), (m.state.entries.map entryc), (idCells m.state.commits), m.report.core, m.report.view.number, (intCells m.report.view.members), (intCells m.report.view.owners), (m.report.state.slots.map slotc), (m.report.state.pending.map reqc), (m.report.state.marks.map markc), (m.report.state.answers.map ansc), (m.report.state.entries.map entryc), (idCells m.report.state.commits), m.report.ready, m.report.next.number, (intCells m.report.next.members), (intCells m.report.next.owners), (m.report.proposal.slots.map slotc), (m.report.proposal.pending.map reqc), (m.report.proposal.marks.map markc), (m.report.proposal.answers.map ansc), (m.report.proposal.entries.map entryc), (idCells m.report.proposal.commits))
def noCall : Call := ⟨0, 0, 0, 0, 0, 0, 0, 0, 0, 0, 0, 0⟩
def noReq : Req := ⟨zid, noCall, 0, 0, noNode⟩
def noView : View := ⟨0, [], []⟩
def noState : State := ⟨[], [], [], [], [], []⟩
def noReport : Report := ⟨0, noView, noState, false, noView, noState⟩
def clr (m : Msg) : Nat → Msg
 | 0 => { m with region := 0 }
 | 1 => { m with req := noReq }
 | 2 => { m with op := zid }
 | 3 => { m with err := 0 }
 | 4 => { m with settled := false }
 | 5 => { m with nodes := [] }
 | 6 => { m with slot := 0 }
 | 7 => { m with ids := [] }
 | 8 => { m with round := 0 }
 | 9 => { m with cores := [] }
 | 10 => { m with report := noReport }
 | 11 => { m with base := 0 }
 | 12 => { m with next := noView }
 | 13 => { m with state := noState }
 | 14 => { m with moves := [] }
 | _ => m
theorem s69 (m : Msg) : ∀ f : Nat, f < 15 → g69 m.kind m.view m.frm m.to m.round m.region m.slot m.op.core m.op.op m.op.part m.err m.settled m.req.id.core m.req.id.op m.req.id.part m.req.call.kind m.req.call.slot m.req.call.dest m.req.call.core m.req.call.mask m.req.call.object m.req.call.bits m.req.call.level m.req.call.offset m.req.call.count m.req.call.index m.req.call.addr m.req.region m.req.width m.req.src.id.core m.req.src.id.op m.req.src.id.part (idCells m.req.src.path) m.req.src.cap.kind m.req.src.cap.base m.req.src.cap.bits m.req.src.cap.rights m.req.src.cap.width m.req.src.cap.level m.req.src.cap.device (idCells m.ids) (m.nodes.map nodec) (intCells m.cores) (m.moves.map movec) m.base m.next.number (intCells m.next.members) (intCells m.next.owners) (m.state.slots.map slotc) (m.state.pending.map reqc) (m.state.marks.map markc) (m.state.answers.map ansc) (m.state.entries.map entryc) (idCells m.state.commits) m.report.core m.report.view.number (intCells m.report.view.members) (intCells m.report.view.owners) (m.report.state.slots.map slotc) (m.report.state.pending.map reqc) (m.report.state.marks.map markc) (m.report.state.answers.map ansc) (m.report.state.entries.map entryc) (idCells m.report.state.commits) m.report.ready m.report.next.number (intCells m.report.next.members) (intCells m.report.next.owners) (m.report.proposal.slots.map slotc) (m.report.proposal.pending.map reqc) (m.report.proposal.marks.map markc) (m.report.proposal.answers.map ansc) (m.report.proposal.entries.map entryc) (idCells m.report.proposal.commits) (f : Int) = some (msgT (clr m f))
 | 0, _ => by rw [g69_eq]; rfl
 | 1, _ => by rw [g69_eq]; rfl
 | 2, _ => by rw [g69_eq]; rfl
 | 3, _ => by rw [g69_eq]; rfl
 | 4, _ => by rw [g69_eq]; rfl
 | 5, _ => by rw [g69_eq]; rfl
 | 6, _ => by rw [g69_eq]; rfl
 | 7, _ => by rw [g69_eq]; rfl
 | 8, _ => by rw [g69_eq]; rfl
 | 9, _ => by rw [g69_eq]; rfl
 | 10, _ => by rw [g69_eq]; rfl
 | 11, _ => by rw [g69_eq]; rfl
 | 12, _ => by rw [g69_eq]; rfl
 | 13, _ => by rw [g69_eq]; rfl
 | 14, _ => by rw [g69_eq]; rfl
theorem s124 (m : Msg) {j : Nat} (hj : j + 1 < m.cores.length) : g124 (j : Int) ((j + 1 : Nat) : Int) m.kind m.view m.frm m.to m.round m.region m.slot m.op.core m.op.op m.op.part m.err m.settled m.req.id.core m.req.id.op m.req.id.part m.req.call.kind m.req.call.slot m.req.call.dest m.req.call.core m.req.call.mask m.req.call.object m.req.call.bits m.req.call.level m.req.call.offset m.req.call.count m.req.call.index m.req.call.addr m.req.region m.req.width m.req.src.id.core m.req.src.id.op m.req.src.id.part (idCells m.req.src.path) m.req.src.cap.kind m.req.src.cap.base m.req.src.cap.bits m.req.src.cap.rights m.req.src.cap.width m.req.src.cap.level m.req.src.cap.device (idCells m.ids) (m.nodes.map nodec) (intCells m.cores) (m.moves.map movec) m.base m.next.number (intCells m.next.members) (intCells m.next.owners) (m.state.slots.map slotc) (m.state.pending.map reqc) (m.state.marks.map markc) (m.state.answers.map ansc) (m.state.entries.map entryc) (idCells m.state.commits) m.report.core m.report.view.number (intCells m.report.view.members) (intCells m.report.view.owners) (m.report.state.slots.map slotc) (m.report.state.pending.map reqc) (m.report.state.marks.map markc) (m.report.state.answers.map ansc) (m.report.state.entries.map entryc) (idCells m.report.state.commits) m.report.ready m.report.next.number (intCells m.report.next.members) (intCells m.report.next.owners) (m.report.proposal.slots.map slotc) (m.report.proposal.pending.map reqc) (m.report.proposal.marks.map markc) (m.report.proposal.answers.map ansc) (m.report.proposal.entries.map entryc) (idCells m.report.proposal.commits) = some (ltI m.cores[j] m.cores[j + 1], msgT m) := by
 rw [g124_eq]
 refine (elem_ints (show j < m.cores.length by omega) _).trans ?_
 refine (elem_ints hj _).trans ?_
 rfl
theorem s123c124 (m : Msg) (h : m.Fits) : g123c124 (m.cores.length : Int) m.kind m.view m.frm m.to m.round m.region m.slot m.op.core m.op.op m.op.part m.err m.settled m.req.id.core m.req.id.op m.req.id.part m.req.call.kind m.req.call.slot m.req.call.dest m.req.call.core m.req.call.mask m.req.call.object m.req.call.bits m.req.call.level m.req.call.offset m.req.call.count m.req.call.index m.req.call.addr m.req.region m.req.width m.req.src.id.core m.req.src.id.op m.req.src.id.part (idCells m.req.src.path) m.req.src.cap.kind m.req.src.cap.base m.req.src.cap.bits m.req.src.cap.rights m.req.src.cap.width m.req.src.cap.level m.req.src.cap.device (idCells m.ids) (m.nodes.map nodec) (intCells m.cores) (m.moves.map movec) m.base m.next.number (intCells m.next.members) (intCells m.next.owners) (m.state.slots.map slotc) (m.state.pending.map reqc) (m.state.marks.map markc) (m.state.answers.map ansc) (m.state.entries.map entryc) (idCells m.state.commits) m.report.core m.report.view.number (intCells m.report.view.members) (intCells m.report.view.owners) (m.report.state.slots.map slotc) (m.report.state.pending.map reqc) (m.report.state.marks.map markc) (m.report.state.answers.map ansc) (m.report.state.entries.map entryc) (idCells m.report.state.commits) m.report.ready m.report.next.number (intCells m.report.next.members) (intCells m.report.next.owners) (m.report.proposal.slots.map slotc) (m.report.proposal.pending.map reqc) (m.report.proposal.marks.map markc) (m.report.proposal.answers.map ansc) (m.report.proposal.entries.map entryc) (idCells m.report.proposal.commits) = some (ascB ltI m.cores, msgT m) := by
 rw [g123c124_eq]
 have := scan_all (F := fun k i => g123c124L0 k (m.cores.length : Int) i m.kind m.view m.frm m.to m.round m.region m.slot m.op.core m.op.op m.op.part m.err m.settled m.req.id.core m.req.id.op m.req.id.part m.req.call.kind m.req.call.slot m.req.call.dest m.req.call.core m.req.call.mask m.req.call.object m.req.call.bits m.req.call.level m.req.call.offset m.req.call.count m.req.call.index m.req.call.addr m.req.region m.req.width m.req.src.id.core m.req.src.id.op m.req.src.id.part (idCells m.req.src.path) m.req.src.cap.kind m.req.src.cap.base m.req.src.cap.bits m.req.src.cap.rights m.req.src.cap.width m.req.src.cap.level m.req.src.cap.device (idCells m.ids) (m.nodes.map nodec) (intCells m.cores) (m.moves.map movec) m.base m.next.number (intCells m.next.members) (intCells m.next.owners) (m.state.slots.map slotc) (m.state.pending.map reqc) (m.state.marks.map markc) (m.state.answers.map ansc) (m.state.entries.map entryc) (idCells m.state.commits) m.report.core m.report.view.number (intCells m.report.view.members) (intCells m.report.view.owners) (m.report.state.slots.map slotc) (m.report.state.pending.map reqc) (m.report.state.marks.map markc) (m.report.state.answers.map ansc) (m.report.state.entries.map entryc) (idCells m.report.state.commits) m.report.ready m.report.next.number (intCells m.report.next.members) (intCells m.report.next.owners) (m.report.proposal.slots.map slotc) (m.report.proposal.pending.map reqc) (m.report.proposal.marks.map markc) (m.report.proposal.answers.map ansc) (m.report.proposal.entries.map entryc) (idCells m.report.proposal.commits)) (n := m.cores.length) (fin := some (true, msgT m)) (bad := some (false, msgT m)) (prevB ltI m.cores) h.cores 1 (by omega)
  (fun k i h1 hi => by
   obtain ⟨j, rfl⟩ : ∃ j, i = j + 1 := ⟨i - 1, by omega⟩
   refine (g123c124L0_eq ..).trans ?_
   rw [if_pos (lss_t hi), dec_i (by have := h.cores; omega), s124 m hi, Option.bind_some, inc_i hi h.cores, prev_at _ hi]
   cases ltI m.cores[j] m.cores[j + 1] <;> rfl)
  (fun k i hi => by refine (g123c124L0_eq ..).trans ?_; rw [if_neg (lss_f hi)]; rfl)
 rw [asc1] at this
 refine Eq.trans this ?_
 cases ascB ltI m.cores <;> rfl
def fieldOk (m : Msg) : Nat → Bool
 | 0 => regOk m.region
 | 1 => reqOk m.req
 | 2 => opOk m.op
 | 3 => errOk m.err
 | 5 => decide (m.nodes.length ≤ 8) && (decide (m.kind ≠ 4) || decide (m.nodes.length = 1)) && m.nodes.all nodeOk
 | 6 => slotOk m.slot
 | 7 => decide (m.ids.length ≤ 64) && m.ids.all idOk
 | 8 => numOk m.round
 | 9 => coresOk m.cores
 | 10 => repOk m.report
 | 11 => numOk m.base
 | 12 => viewOk m.next
 | 13 => stateOk m.state
 | 14 => decide (m.moves.length ≤ 16) && m.moves.all moveOk
 | _ => true
theorem s68 (m : Msg) (h : m.Fits) : ∀ f : Nat, f < 15 → g68 m.kind m.view m.frm m.to m.round m.region m.slot m.op.core m.op.op m.op.part m.err m.settled m.req.id.core m.req.id.op m.req.id.part m.req.call.kind m.req.call.slot m.req.call.dest m.req.call.core m.req.call.mask m.req.call.object m.req.call.bits m.req.call.level m.req.call.offset m.req.call.count m.req.call.index m.req.call.addr m.req.region m.req.width m.req.src.id.core m.req.src.id.op m.req.src.id.part (idCells m.req.src.path) m.req.src.cap.kind m.req.src.cap.base m.req.src.cap.bits m.req.src.cap.rights m.req.src.cap.width m.req.src.cap.level m.req.src.cap.device (idCells m.ids) (m.nodes.map nodec) (intCells m.cores) (m.moves.map movec) m.base m.next.number (intCells m.next.members) (intCells m.next.owners) (m.state.slots.map slotc) (m.state.pending.map reqc) (m.state.marks.map markc) (m.state.answers.map ansc) (m.state.entries.map entryc) (idCells m.state.commits) m.report.core m.report.view.number (intCells m.report.view.members) (intCells m.report.view.owners) (m.report.state.slots.map slotc) (m.report.state.pending.map reqc) (m.report.state.marks.map markc) (m.report.state.answers.map ansc) (m.report.state.entries.map entryc) (idCells m.report.state.commits) m.report.ready m.report.next.number (intCells m.report.next.members) (intCells m.report.next.owners) (m.report.proposal.slots.map slotc) (m.report.proposal.pending.map reqc) (m.report.proposal.marks.map markc) (m.report.proposal.answers.map ansc) (m.report.proposal.entries.map entryc) (idCells m.report.proposal.commits) (f : Int) = some (fieldOk m f)
 | 0, _ => by
   refine (g68_eq ..).trans ?_
   exact (congrArg (fun x => Option.bind x some) (s110 _))
 | 1, _ => by
   refine (g68_eq ..).trans ?_
   exact (congrArg (fun x => Option.bind x some) (s111 _ h.req))
 | 2, _ => by
   refine (g68_eq ..).trans ?_
   exact (congrArg (fun x => Option.bind x some) (s112 _))
 | 3, _ => by
   refine (g68_eq ..).trans ?_
   exact (congrArg (fun x => Option.bind x some) (s113 _))
 | 4, _ => by
   refine (g68_eq ..).trans ?_
   rfl
 | 5, _ => by
   refine (g68_eq ..).trans ?_
   show (if (cop .gtr ((m.nodes.map nodec).length : Int) 8) = true then some false else if (cop .eql m.kind 4) = true then (if (cop .neq ((m.nodes.map nodec).length : Int) 1) = true then some false else (g114c115 (m.nodes.map nodec)).bind fun r => some (!r)) else (g114c115 (m.nodes.map nodec)).bind fun r => some (!r)) = _
   rw [List.length_map, s114c115 _ h.nodes h.node]
   repeat' split
   all_goals (refine congrArg some ?_; rw [bool_iff]; simp only [fieldOk, Bool.not_not, CQ] at * <;> grind)
 | 6, _ => by
   refine (g68_eq ..).trans ?_
   exact (congrArg (fun x => Option.bind x some) (s117 _))
 | 7, _ => by
   refine (g68_eq ..).trans ?_
   show (if (cop .leq ((idCells m.ids).length : Int) 64) = true then (g118c119 (idCells m.ids)).bind fun r => some (!r) else some false) = _
   rw [ids_len, s118c119 _ h.ids]
   repeat' split
   all_goals (refine congrArg some ?_; rw [bool_iff]; simp only [fieldOk, Bool.not_not, CQ] at * <;> grind)
 | 8, _ => by
   refine (g68_eq ..).trans ?_
   exact (congrArg (fun x => Option.bind x some) (s66 _))
 | 9, _ => by
   refine (g68_eq ..).trans ?_
   show ((g121c122 (intCells m.cores)).bind fun (r : Bool) => if (!r) = true then (g123c124 ((intCells m.cores).length : Int) m.kind m.view m.frm m.to m.round m.region m.slot m.op.core m.op.op m.op.part m.err m.settled m.req.id.core m.req.id.op m.req.id.part m.req.call.kind m.req.call.slot m.req.call.dest m.req.call.core m.req.call.mask m.req.call.object m.req.call.bits m.req.call.level m.req.call.offset m.req.call.count m.req.call.index m.req.call.addr m.req.region m.req.width m.req.src.id.core m.req.src.id.op m.req.src.id.part (idCells m.req.src.path) m.req.src.cap.kind m.req.src.cap.base m.req.src.cap.bits m.req.src.cap.rights m.req.src.cap.width m.req.src.cap.level m.req.src.cap.device (idCells m.ids) (m.nodes.map nodec) (intCells m.cores) (m.moves.map movec) m.base m.next.number (intCells m.next.members) (intCells m.next.owners) (m.state.slots.map slotc) (m.state.pending.map reqc) (m.state.marks.map markc) (m.state.answers.map ansc) (m.state.entries.map entryc) (idCells m.state.commits) m.report.core m.report.view.number (intCells m.report.view.members) (intCells m.report.view.owners) (m.report.state.slots.map slotc) (m.report.state.pending.map reqc) (m.report.state.marks.map markc) (m.report.state.answers.map ansc) (m.report.state.entries.map entryc) (idCells m.report.state.commits) m.report.ready m.report.next.number (intCells m.report.next.members) (intCells m.report.next.owners) (m.report.proposal.slots.map slotc) (m.report.proposal.pending.map reqc) (m.report.proposal.marks.map markc) (m.report.proposal.answers.map ansc) (m.report.proposal.entries.map entryc) (idCells m.report.proposal.commits)).bind fun r => some r.1 else some false) = _
   rw [s121c122 _ h.cores, ints_len, s123c124 m h, Option.bind_some, Option.bind_some]
   show _ = some (m.cores.all coreOk && ascB ltI m.cores)
   cases m.cores.all coreOk <;> rfl
 | 10, _ => by
   refine (g68_eq ..).trans ?_
   exact (congrArg (fun x => Option.bind x some) (s125 _ h.report))
 | 11, _ => by
   refine (g68_eq ..).trans ?_
   exact (congrArg (fun x => Option.bind x some) (s66 _))
 | 12, _ => by
   refine (g68_eq ..).trans ?_
   exact (congrArg (fun x => Option.bind x some) (s126 _ h.next.members h.next.owners))
 | 13, _ => by
   refine (g68_eq ..).trans ?_
   exact (congrArg (fun x => Option.bind x some) (s127 _ h.state))
 | 14, _ => by
   refine (g68_eq ..).trans ?_
   show (if (cop .leq ((m.moves.map movec).length : Int) 16) = true then (g128c129 (m.moves.map movec)).bind fun r => some (!r) else some false) = _
   rw [List.length_map, s128c129 _ h.moves]
   repeat' split
   all_goals (refine congrArg some ?_; rw [bool_iff]; simp only [fieldOk, Bool.not_not, CQ] at * <;> grind)
def zReq (r : Req) : Bool := decide (r.id = zid) && decide (r.call.kind = 0 ∧ r.call.slot = 0 ∧ r.call.dest = 0 ∧ r.call.core = 0 ∧ r.call.mask = 0 ∧ r.call.object = 0 ∧ r.call.bits = 0 ∧ r.call.level = 0 ∧ r.call.offset = 0 ∧ r.call.count = 0 ∧ r.call.index = 0 ∧ r.call.addr = 0) && decide (r.region = 0) && decide (r.width = 0) && sameN r.src noNode
def zView (v : View) : Bool := decide (v.number = 0) && decide (v.members.length = 0) && decide (v.owners.length = 0)
def zState (s : State) : Bool := decide (s.slots.length = 0) && decide (s.pending.length = 0) && decide (s.marks.length = 0) && decide (s.answers.length = 0) && decide (s.entries.length = 0) && decide (s.commits.length = 0)
def zReport (r : Report) : Bool := decide (r.core = 0) && zView r.view && zState r.state && !r.ready && zView r.next && zState r.proposal
theorem eql0 (n : Nat) : cop .eql (n : Int) 0 = decide (n = 0) := by rw [bool_iff]; simp only [CQ]; omega
theorem eqlz (z : Int) : cop .eql z 0 = decide (z = 0) := rfl
theorem s130 (r : Req) (h : r.src.path.length < 2 ^ 63) : g130 r.id.core r.id.op r.id.part r.call.kind r.call.slot r.call.dest r.call.core r.call.mask r.call.object r.call.bits r.call.level r.call.offset r.call.count r.call.index r.call.addr r.region r.width r.src.id.core r.src.id.op r.src.id.part (idCells r.src.path) r.src.cap.kind r.src.cap.base r.src.cap.bits r.src.cap.rights r.src.cap.width r.src.cap.level r.src.cap.device = some (zReq r) := by
 rw [g130_eq, s148z _ h, Option.bind_some]
 simp only [zid_eqb, id_eta]
 unfold zReq
 repeat' split
 all_goals (refine congrArg some ?_; rw [bool_iff]; simp only [CQ] at * <;> grind)
theorem s131 (v : View) : g131 v.number (intCells v.members) (intCells v.owners) = some (zView v) := by
 rw [g131_eq, ints_len, ints_len, eql0, eql0, eqlz]
 unfold zView
 cases decide (v.number = 0) <;> cases decide (v.members.length = 0) <;> rfl
theorem s132 (s : State) : g132 (s.slots.map slotc) (s.pending.map reqc) (s.marks.map markc) (s.answers.map ansc) (s.entries.map entryc) (idCells s.commits) = some (zState s) := by
 rw [g132_eq, List.length_map, List.length_map, List.length_map, List.length_map, List.length_map, ids_len, eql0, eql0, eql0, eql0, eql0, eql0]
 unfold zState
 cases decide (s.slots.length = 0) <;> cases decide (s.pending.length = 0) <;> cases decide (s.marks.length = 0) <;> cases decide (s.answers.length = 0) <;> cases decide (s.entries.length = 0) <;> rfl
theorem s133 (r : Report) : g133 r.core r.view.number (intCells r.view.members) (intCells r.view.owners) (r.state.slots.map slotc) (r.state.pending.map reqc) (r.state.marks.map markc) (r.state.answers.map ansc) (r.state.entries.map entryc) (idCells r.state.commits) r.ready r.next.number (intCells r.next.members) (intCells r.next.owners) (r.proposal.slots.map slotc) (r.proposal.pending.map reqc) (r.proposal.marks.map markc) (r.proposal.answers.map ansc) (r.proposal.entries.map entryc) (idCells r.proposal.commits) = some (zReport r) := by
 rw [g133_eq, s131, s132, s131, s132, eqlz, Option.bind_some, Option.bind_some, Option.bind_some, Option.bind_some]
 unfold zReport
 cases decide (r.core = 0) <;> cases zView r.view <;> cases zState r.state <;> cases r.ready <;> cases zView r.next <;> rfl
def zf (m : Msg) : Nat → Bool
 | 0 => decide (m.region = 0)
 | 1 => zReq m.req
 | 2 => decide (m.op = zid)
 | 3 => decide (m.err = 0)
 | 4 => !m.settled
 | 5 => decide (m.nodes.length = 0)
 | 6 => decide (m.slot = 0)
 | 7 => decide (m.ids.length = 0)
 | 8 => decide (m.round = 0)
 | 9 => decide (m.cores.length = 0)
 | 10 => zReport m.report
 | 11 => decide (m.base = 0)
 | 12 => zView m.next
 | 13 => zState m.state
 | 14 => decide (m.moves.length = 0)
 | _ => true
def zMsg (m : Msg) : Bool := (List.range 15).all (zf m)
theorem and_if (b : Bool) {y : Bool} {x : Option Bool} (h : x = some y) : (if b = true then x else some false) = some (b && y) := by cases b <;> simp [h]
theorem s70 (m : Msg) (h : m.req.src.path.length < 2 ^ 63) : g70 m.kind m.view m.frm m.to m.round m.region m.slot m.op.core m.op.op m.op.part m.err m.settled m.req.id.core m.req.id.op m.req.id.part m.req.call.kind m.req.call.slot m.req.call.dest m.req.call.core m.req.call.mask m.req.call.object m.req.call.bits m.req.call.level m.req.call.offset m.req.call.count m.req.call.index m.req.call.addr m.req.region m.req.width m.req.src.id.core m.req.src.id.op m.req.src.id.part (idCells m.req.src.path) m.req.src.cap.kind m.req.src.cap.base m.req.src.cap.bits m.req.src.cap.rights m.req.src.cap.width m.req.src.cap.level m.req.src.cap.device (idCells m.ids) (m.nodes.map nodec) (intCells m.cores) (m.moves.map movec) m.base m.next.number (intCells m.next.members) (intCells m.next.owners) (m.state.slots.map slotc) (m.state.pending.map reqc) (m.state.marks.map markc) (m.state.answers.map ansc) (m.state.entries.map entryc) (idCells m.state.commits) m.report.core m.report.view.number (intCells m.report.view.members) (intCells m.report.view.owners) (m.report.state.slots.map slotc) (m.report.state.pending.map reqc) (m.report.state.marks.map markc) (m.report.state.answers.map ansc) (m.report.state.entries.map entryc) (idCells m.report.state.commits) m.report.ready m.report.next.number (intCells m.report.next.members) (intCells m.report.next.owners) (m.report.proposal.slots.map slotc) (m.report.proposal.pending.map reqc) (m.report.proposal.marks.map markc) (m.report.proposal.answers.map ansc) (m.report.proposal.entries.map entryc) (idCells m.report.proposal.commits) = some (zMsg m) := by
 rw [g70_eq, s130 _ h, s131, s132, s133, ids_len, List.length_map, ints_len, List.length_map, eql0, eql0, eql0, eql0, eqlz m.round, eqlz m.region, eqlz m.slot, eqlz m.err, eqlz m.base]
 have e : ((cop .eql m.op.core 0) && ((cop .eql m.op.op 0) && ((cop .eql m.op.part 0) && true))) = decide (m.op = zid) := by
  rw [bool_iff, zid_eqb, id_eta, decide_eq_true_eq]
 rw [e]
 simp only [Option.bind_some]
 refine Eq.trans (and_if _ (and_if _ (and_if _ (and_if _ (and_if _ (and_if _ (and_if _ (and_if _ (and_if _ (and_if _ (and_if _ (and_if _ (and_if _ (and_if _ (rfl))))))))))))))) ?_
 refine congrArg some ?_
 show _ = (zf m 0 && (zf m 1 && (zf m 2 && (zf m 3 && (zf m 4 && (zf m 5 && (zf m 6 && (zf m 7 && (zf m 8 && (zf m 9 && (zf m 10 && (zf m 11 && (zf m 12 && (zf m 13 && (zf m 14 && true)))))))))))))))
 simp only [zf, Bool.and_true]
 ac_rfl
end Go.Proofs.YtljejgmcgddppaaGreat
end

section
namespace Go.Proofs.YtljejgmcgddppaaGreat
open Go Go.AM
set_option linter.unusedSimpArgs false
set_option linter.unusedVariables false
set_option maxRecDepth 100000
def kf : Nat → List Nat
 | 1 => [0, 1]
 | 2 => [0, 2, 3, 4, 5]
 | 3 => [0, 2]
 | 4 => [0, 2, 6, 5]
 | 5 => [0, 2, 3]
 | 6 => [0, 2, 7]
 | 7 => [0, 2]
 | 8 => [0, 2]
 | 9 => [0, 2]
 | 10 => [0, 2]
 | 11 => [0, 2]
 | 12 => [8, 9]
 | 13 => [8, 10]
 | 14 => [8, 11, 9, 12, 13]
 | 15 => [8]
 | 16 => [8]
 | 17 => [9, 14]
 | _ => []
def fc (l : List Nat) : List (List AV) := l.map fun f : Nat => [I (f : Int)]
theorem s65 : ∀ n : Nat, 1 ≤ n → n ≤ 17 → g65 (n : Int) = some (fc (kf n), true)
 | 1, _, _ => by rw [g65_eq]; rfl
 | 2, _, _ => by rw [g65_eq]; rfl
 | 3, _, _ => by rw [g65_eq]; rfl
 | 4, _, _ => by rw [g65_eq]; rfl
 | 5, _, _ => by rw [g65_eq]; rfl
 | 6, _, _ => by rw [g65_eq]; rfl
 | 7, _, _ => by rw [g65_eq]; rfl
 | 8, _, _ => by rw [g65_eq]; rfl
 | 9, _, _ => by rw [g65_eq]; rfl
 | 10, _, _ => by rw [g65_eq]; rfl
 | 11, _, _ => by rw [g65_eq]; rfl
 | 12, _, _ => by rw [g65_eq]; rfl
 | 13, _, _ => by rw [g65_eq]; rfl
 | 14, _, _ => by rw [g65_eq]; rfl
 | 15, _, _ => by rw [g65_eq]; rfl
 | 16, _, _ => by rw [g65_eq]; rfl
 | 17, _, _ => by rw [g65_eq]; rfl
 | n + 18, _, h => absurd h (by omega)
theorem s65n (k : Int) (h : ¬ (1 ≤ k ∧ k ≤ 17)) : g65 k = some (([] : List (List AV)), false) := by
 rw [g65_eq]
 rw [if_neg (show ¬ (cop .eql k 1) = true by simp only [CQ]; omega)]
 rw [if_neg (show ¬ (cop .eql k 2) = true by simp only [CQ]; omega)]
 rw [if_neg (show ¬ (cop .eql k 3) = true by simp only [CQ]; omega)]
 rw [if_neg (show ¬ (cop .eql k 7) = true by simp only [CQ]; omega)]
 rw [if_neg (show ¬ (cop .eql k 8) = true by simp only [CQ]; omega)]
 rw [if_neg (show ¬ (cop .eql k 9) = true by simp only [CQ]; omega)]
 rw [if_neg (show ¬ (cop .eql k 10) = true by simp only [CQ]; omega)]
 rw [if_neg (show ¬ (cop .eql k 11) = true by simp only [CQ]; omega)]
 rw [if_neg (show ¬ (cop .eql k 4) = true by simp only [CQ]; omega)]
 rw [if_neg (show ¬ (cop .eql k 5) = true by simp only [CQ]; omega)]
 rw [if_neg (show ¬ (cop .eql k 6) = true by simp only [CQ]; omega)]
 rw [if_neg (show ¬ (cop .eql k 12) = true by simp only [CQ]; omega)]
 rw [if_neg (show ¬ (cop .eql k 13) = true by simp only [CQ]; omega)]
 rw [if_neg (show ¬ (cop .eql k 14) = true by simp only [CQ]; omega)]
 rw [if_neg (show ¬ (cop .eql k 15) = true by simp only [CQ]; omega)]
 rw [if_neg (show ¬ (cop .eql k 16) = true by simp only [CQ]; omega)]
 rw [if_neg (show ¬ (cop .eql k 17) = true by simp only [CQ]; omega)]
theorem kf_lt (n : Nat) : ∀ f ∈ kf n, f < 15 := by
 intro f hf
 unfold kf at hf
 split at hf <;> simp at hf <;> omega
theorem elem_fc {γ : Type} {l : List Nat} {i : Nat} (h : i < l.length) (k : Int → Option γ) : elemK (fc l) (i : Int) [.int .i64] k = k (l[i] : Int) := elem_map (f := fun n : Nat => [I (n : Int)]) (sh := [.int .i64]) (v := fun n : Nat => (n : Int)) (fun _ => rfl) h k
theorem clr_path (r : Msg) (f : Nat) (h : r.req.src.path.length < 2 ^ 63) : (clr r f).req.src.path.length < 2 ^ 63 := by
 unfold clr
 split <;> first | exact h | (show ([] : List Id).length < 2 ^ 63; simp)
theorem l40 (m : Msg) (h : m.Fits) (L : List Nat) (hL : ∀ f ∈ L, f < 15) (hn : L.length < 2 ^ 63) : ∀ (j i fuel : Nat) (r : Msg), L.length = i + j → j < fuel → r.req.src.path.length < 2 ^ 63 →
  g40L0 fuel m.kind m.view m.frm m.to m.round m.region m.slot m.op.core m.op.op m.op.part m.err m.settled m.req.id.core m.req.id.op m.req.id.part m.req.call.kind m.req.call.slot m.req.call.dest m.req.call.core m.req.call.mask m.req.call.object m.req.call.bits m.req.call.level m.req.call.offset m.req.call.count m.req.call.index m.req.call.addr m.req.region m.req.width m.req.src.id.core m.req.src.id.op m.req.src.id.part (idCells m.req.src.path) m.req.src.cap.kind m.req.src.cap.base m.req.src.cap.bits m.req.src.cap.rights m.req.src.cap.width m.req.src.cap.level m.req.src.cap.device (idCells m.ids) (m.nodes.map nodec) (intCells m.cores) (m.moves.map movec) m.base m.next.number (intCells m.next.members) (intCells m.next.owners) (m.state.slots.map slotc) (m.state.pending.map reqc) (m.state.marks.map markc) (m.state.answers.map ansc) (m.state.entries.map entryc) (idCells m.state.commits) m.report.core m.report.view.number (intCells m.report.view.members) (intCells m.report.view.owners) (m.report.state.slots.map slotc) (m.report.state.pending.map reqc) (m.report.state.marks.map markc) (m.report.state.answers.map ansc) (m.report.state.entries.map entryc) (idCells m.report.state.commits) m.report.ready m.report.next.number (intCells m.report.next.members) (intCells m.report.next.owners) (m.report.proposal.slots.map slotc) (m.report.proposal.pending.map reqc) (m.report.proposal.marks.map markc) (m.report.proposal.answers.map ansc) (m.report.proposal.entries.map entryc) (idCells m.report.proposal.commits) r.kind r.view r.frm r.to r.round r.region r.slot r.op.core r.op.op r.op.part r.err r.settled r.req.id.core r.req.id.op r.req.id.part r.req.call.kind r.req.call.slot r.req.call.dest r.req.call.core r.req.call.mask r.req.call.object r.req.call.bits r.req.call.level r.req.call.offset r.req.call.count r.req.call.index r.req.call.addr r.req.region r.req.width r.req.src.id.core r.req.src.id.op r.req.src.id.part (idCells r.req.src.path) r.req.src.cap.kind r.req.src.cap.base r.req.src.cap.bits r.req.src.cap.rights r.req.src.cap.width r.req.src.cap.level r.req.src.cap.device (idCells r.ids) (r.nodes.map nodec) (intCells r.cores) (r.moves.map movec) r.base r.next.number (intCells r.next.members) (intCells r.next.owners) (r.state.slots.map slotc) (r.state.pending.map reqc) (r.state.marks.map markc) (r.state.answers.map ansc) (r.state.entries.map entryc) (idCells r.state.commits) r.report.core r.report.view.number (intCells r.report.view.members) (intCells r.report.view.owners) (r.report.state.slots.map slotc) (r.report.state.pending.map reqc) (r.report.state.marks.map markc) (r.report.state.answers.map ansc) (r.report.state.entries.map entryc) (idCells r.report.state.commits) r.report.ready r.report.next.number (intCells r.report.next.members) (intCells r.report.next.owners) (r.report.proposal.slots.map slotc) (r.report.proposal.pending.map reqc) (r.report.proposal.marks.map markc) (r.report.proposal.answers.map ansc) (r.report.proposal.entries.map entryc) (idCells r.report.proposal.commits) (fc L) (L.length : Int) (i : Int) = some ((L.drop i).all (fieldOk m) && zMsg ((L.drop i).foldl clr r)) := by
 intro j
 induction j with
 | zero =>
  intro i fuel r hij hf hr
  obtain ⟨f, rfl⟩ : ∃ f, fuel = f + 1 := ⟨fuel - 1, by omega⟩
  refine (g40L0_eq ..).trans ?_
  rw [if_neg (lss_f (by omega)), s70 r hr, Option.bind_some, List.drop_of_length_le (by omega)]
  rfl
 | succ j ih =>
  intro i fuel r hij hf hr
  obtain ⟨f, rfl⟩ : ∃ f, fuel = f + 1 := ⟨fuel - 1, by omega⟩
  have hi : i < L.length := by omega
  have hlt := hL _ (List.getElem_mem hi)
  refine (g40L0_eq ..).trans ?_
  rw [if_pos (lss_t hi)]
  refine (elem_fc hi _).trans ?_
  rw [s68 m h _ hlt, Option.bind_some, List.drop_eq_getElem_cons hi, List.all_cons, List.foldl_cons, inc_i hi hn]
  cases fieldOk m L[i] with
  | false => rfl
  | true =>
   rw [if_neg (by simp), s69 r _ hlt, Option.bind_some, Bool.true_and]
   exact ih (i + 1) f (clr r L[i]) (by omega) (by omega) (clr_path r _ hr)
def kindOk (k : Int) : Bool := decide (1 ≤ k ∧ k ≤ 17)
def headOk (m : Msg) : Bool := kindOk m.kind && numOk m.view && coreOk m.frm && coreOk m.to
def rest (n : Nat) (m : Msg) : Bool := (List.range 15).all (fun g => (kf n).contains g || zf m g)
def validB (m : Msg) : Bool := headOk m && ((kf m.kind.toNat).all (fieldOk m) && rest m.kind.toNat m)
theorem rest_eq (m : Msg) : ∀ n : Nat, 1 ≤ n → n ≤ 17 → zMsg ((kf n).foldl clr m) = rest n m
 | 1, _, _ => by kernel_rfl
 | 2, _, _ => by kernel_rfl
 | 3, _, _ => by kernel_rfl
 | 4, _, _ => by kernel_rfl
 | 5, _, _ => by kernel_rfl
 | 6, _, _ => by kernel_rfl
 | 7, _, _ => by kernel_rfl
 | 8, _, _ => by kernel_rfl
 | 9, _, _ => by kernel_rfl
 | 10, _, _ => by kernel_rfl
 | 11, _, _ => by kernel_rfl
 | 12, _, _ => by kernel_rfl
 | 13, _, _ => by kernel_rfl
 | 14, _, _ => by kernel_rfl
 | 15, _, _ => by kernel_rfl
 | 16, _, _ => by kernel_rfl
 | 17, _, _ => by kernel_rfl
 | n + 18, _, h => absurd h (by omega)
theorem s40 (m : Msg) (h : m.Fits) : g40 m.kind m.view m.frm m.to m.round m.region m.slot m.op.core m.op.op m.op.part m.err m.settled m.req.id.core m.req.id.op m.req.id.part m.req.call.kind m.req.call.slot m.req.call.dest m.req.call.core m.req.call.mask m.req.call.object m.req.call.bits m.req.call.level m.req.call.offset m.req.call.count m.req.call.index m.req.call.addr m.req.region m.req.width m.req.src.id.core m.req.src.id.op m.req.src.id.part (idCells m.req.src.path) m.req.src.cap.kind m.req.src.cap.base m.req.src.cap.bits m.req.src.cap.rights m.req.src.cap.width m.req.src.cap.level m.req.src.cap.device (idCells m.ids) (m.nodes.map nodec) (intCells m.cores) (m.moves.map movec) m.base m.next.number (intCells m.next.members) (intCells m.next.owners) (m.state.slots.map slotc) (m.state.pending.map reqc) (m.state.marks.map markc) (m.state.answers.map ansc) (m.state.entries.map entryc) (idCells m.state.commits) m.report.core m.report.view.number (intCells m.report.view.members) (intCells m.report.view.owners) (m.report.state.slots.map slotc) (m.report.state.pending.map reqc) (m.report.state.marks.map markc) (m.report.state.answers.map ansc) (m.report.state.entries.map entryc) (idCells m.report.state.commits) m.report.ready m.report.next.number (intCells m.report.next.members) (intCells m.report.next.owners) (m.report.proposal.slots.map slotc) (m.report.proposal.pending.map reqc) (m.report.proposal.marks.map markc) (m.report.proposal.answers.map ansc) (m.report.proposal.entries.map entryc) (idCells m.report.proposal.commits) = some (validB m) := by
 rw [g40_eq]
 unfold validB headOk
 by_cases hk : 1 ≤ m.kind ∧ m.kind ≤ 17
 ·obtain ⟨n, hn⟩ : ∃ n : Nat, m.kind = n := ⟨m.kind.toNat, by omega⟩
  have h1 : kindOk m.kind = true := decide_eq_true hk
  have e19 : g65 m.kind = some (fc (kf n), true) := by rw [hn]; exact s65 n (by omega) (by omega)
  rw [e19, Option.bind_some, s66, s67, s67, Option.bind_some, Option.bind_some, Option.bind_some, h1]
  have hlen : (fc (kf n)).length = (kf n).length := List.length_map _
  have hsz : (kf n).length < 2 ^ 63 := by
   have : (kf n).length ≤ 5 := by unfold kf; split <;> simp
   omega
  have e := l40 m h (kf n) (kf_lt n) hsz (kf n).length 0 FUEL m (by omega) (by have := fuel63 hsz; omega) h.req
  rw [List.drop_zero, rest_eq m n (by omega) (by omega)] at e
  have hk2 : m.kind.toNat = n := by omega
  rw [hk2]
  dsimp only
  rw [hlen]
  refine (if_neg (by simp)).trans ?_
  cases numOk m.view <;> cases coreOk m.frm <;> cases coreOk m.to <;> first | rfl | exact e
 ·have h1 : kindOk m.kind = false := decide_eq_false hk
  rw [s65n _ hk, Option.bind_some, h1]
  rfl
end Go.Proofs.YtljejgmcgddppaaGreat
end

section
namespace Go.Proofs.YtljejgmcgddppaaGreat
open Go Go.AM
set_option linter.unusedSimpArgs false
set_option linter.unusedVariables false
set_option maxRecDepth 100000
theorem eqlD (a b : Int) : cop .eql a b = decide (a = b) := rfl
def at2 {α : Type} (q : α → α → Bool) (l m : List α) (i : Nat) : Bool := match l[i]?, m[i]? with | some a, some b => q a b | _, _ => true
def sameL {α : Type} (q : α → α → Bool) (l m : List α) : Bool := decide (l.length = m.length) && (List.range' 0 l.length).all (at2 q l m)
theorem at2_at {α : Type} (q : α → α → Bool) {l m : List α} {i : Nat} (h : i < l.length) (h' : i < m.length) : at2 q l m i = q l[i] m[i] := by
 unfold at2
 rw [List.getElem?_eq_getElem h, List.getElem?_eq_getElem h']
def sameR (a b : Req) : Bool := decide (a.id.core = b.id.core ∧ a.id.op = b.id.op ∧ a.id.part = b.id.part) && decide (a.call.kind = b.call.kind ∧ a.call.slot = b.call.slot ∧ a.call.dest = b.call.dest ∧ a.call.core = b.call.core ∧ a.call.mask = b.call.mask ∧ a.call.object = b.call.object ∧ a.call.bits = b.call.bits ∧ a.call.level = b.call.level ∧ a.call.offset = b.call.offset ∧ a.call.count = b.call.count ∧ a.call.index = b.call.index ∧ a.call.addr = b.call.addr) && decide (a.region = b.region) && decide (a.width = b.width) && sameN a.src b.src
theorem s102 (a b : Req) (ha : a.src.path.length < 2 ^ 63) (hb : b.src.path.length < 2 ^ 63) : g102 a.id.core a.id.op a.id.part a.call.kind a.call.slot a.call.dest a.call.core a.call.mask a.call.object a.call.bits a.call.level a.call.offset a.call.count a.call.index a.call.addr a.region a.width a.src.id.core a.src.id.op a.src.id.part (idCells a.src.path) a.src.cap.kind a.src.cap.base a.src.cap.bits a.src.cap.rights a.src.cap.width a.src.cap.level a.src.cap.device b.id.core b.id.op b.id.part b.call.kind b.call.slot b.call.dest b.call.core b.call.mask b.call.object b.call.bits b.call.level b.call.offset b.call.count b.call.index b.call.addr b.region b.width b.src.id.core b.src.id.op b.src.id.part (idCells b.src.path) b.src.cap.kind b.src.cap.base b.src.cap.bits b.src.cap.rights b.src.cap.width b.src.cap.level b.src.cap.device = some (sameR a b) := by
 rw [g102_eq, s19' _ _ ha hb, Option.bind_some]
 unfold sameR
 repeat' split
 all_goals (refine congrArg some ?_; rw [bool_iff]; simp only [CQ] at * <;> grind)
theorem s103 (l m : List Node) (hl : l.length < 2 ^ 63) (pl : ∀ x ∈ l, x.path.length < 2 ^ 63) (pm : ∀ x ∈ m, x.path.length < 2 ^ 63) : g103 (l.map nodec) (m.map nodec) = some (sameL sameN l m) := by
 rw [g103_eq, List.length_map, List.length_map]
 unfold sameL
 by_cases h : l.length = m.length
 ·rw [if_neg (show ¬ (cop .neq (l.length : Int) (m.length : Int)) = true by simp only [CQ]; omega), decide_eq_true h, Bool.true_and]
  have := scan_all (F := fun k i => g103L0 k (l.map nodec) (m.map nodec) i) (n := l.length) (fin := some true) (bad := some false) (at2 sameN l m) hl 0 (by omega)
   (fun k i _ hi => by
    have hi' : i < m.length := by omega
    refine (g103L0_eq ..).trans ?_
    rw [List.length_map, if_pos (lss_t hi)]
    refine (elem_nodes hi _).trans ?_
    refine (elem_nodes hi' _).trans ?_
    rw [inc_i hi hl, at2_at _ hi hi']
    generalize g103L0 k (l.map nodec) (m.map nodec) ((i + 1 : Nat) : Int) = X
    try simp only [elem_nodes hi, elem_nodes hi', nodeV, d2, d4, d8, d16, s19' _ _ (pl _ (List.getElem_mem hi)) (pm _ (List.getElem_mem hi')), Option.bind_some]
    skip
    repeat' split
    all_goals (simp only [eqlD, CQ] at * <;> grind))
   (fun k i hi => by refine (g103L0_eq ..).trans ?_; rw [List.length_map, if_neg (lss_f hi)])
  rw [Nat.sub_zero] at this
  refine Eq.trans this ?_
  cases (List.range' 0 l.length).all (at2 sameN l m) <;> rfl
 ·rw [if_pos (show (cop .neq (l.length : Int) (m.length : Int)) = true by simp only [CQ]; omega), decide_eq_false h]
  rfl
def sameI : Int → Int → Bool := fun a b => decide (a = b)
theorem s104 (l m : List Int) (hl : l.length < 2 ^ 63) : g104 (intCells l) (intCells m) = some (sameL sameI l m) := by
 rw [g104_eq, ints_len, ints_len]
 unfold sameL
 by_cases h : l.length = m.length
 ·rw [if_neg (show ¬ (cop .neq (l.length : Int) (m.length : Int)) = true by simp only [CQ]; omega), decide_eq_true h, Bool.true_and]
  have := scan_all (F := fun k i => g104L0 k (intCells l) (intCells m) i) (n := l.length) (fin := some true) (bad := some false) (at2 sameI l m) hl 0 (by omega)
   (fun k i _ hi => by
    have hi' : i < m.length := by omega
    refine (g104L0_eq ..).trans ?_
    rw [ints_len, if_pos (lss_t hi)]
    refine (elem_ints hi _).trans ?_
    refine (elem_ints hi' _).trans ?_
    rw [inc_i hi hl, at2_at _ hi hi']
    generalize g104L0 k (intCells l) (intCells m) ((i + 1 : Nat) : Int) = X
    try simp only [elem_ints hi, elem_ints hi', d2, d4, d8, d16, Option.bind_some]
    generalize l[i] = a
    generalize m[i] = b
    unfold sameI
    repeat' split
    all_goals (simp only [eqlD, CQ] at * <;> grind))
   (fun k i hi => by refine (g104L0_eq ..).trans ?_; rw [ints_len, if_neg (lss_f hi)])
  rw [Nat.sub_zero] at this
  refine Eq.trans this ?_
  cases (List.range' 0 l.length).all (at2 sameI l m) <;> rfl
 ·rw [if_pos (show (cop .neq (l.length : Int) (m.length : Int)) = true by simp only [CQ]; omega), decide_eq_false h]
  rfl
def sameMv : Move → Move → Bool := fun a b => decide (a.region = b.region ∧ a.to = b.to)
theorem s105 (l m : List Move) (hl : l.length < 2 ^ 63) : g105 (l.map movec) (m.map movec) = some (sameL sameMv l m) := by
 rw [g105_eq, List.length_map, List.length_map]
 unfold sameL
 by_cases h : l.length = m.length
 ·rw [if_neg (show ¬ (cop .neq (l.length : Int) (m.length : Int)) = true by simp only [CQ]; omega), decide_eq_true h, Bool.true_and]
  have := scan_all (F := fun k i => g105L0 k (l.map movec) (m.map movec) i) (n := l.length) (fin := some true) (bad := some false) (at2 sameMv l m) hl 0 (by omega)
   (fun k i _ hi => by
    have hi' : i < m.length := by omega
    refine (g105L0_eq ..).trans ?_
    rw [List.length_map, if_pos (lss_t hi)]
    refine (elem_moves hi _).trans ?_
    refine (elem_moves hi' _).trans ?_
    rw [inc_i hi hl, at2_at _ hi hi']
    generalize g105L0 k (l.map movec) (m.map movec) ((i + 1 : Nat) : Int) = X
    try simp only [elem_moves hi, elem_moves hi', d2, d4, d8, d16, Option.bind_some]
    generalize l[i] = a
    generalize m[i] = b
    unfold sameMv
    repeat' split
    all_goals (simp only [eqlD, CQ] at * <;> grind))
   (fun k i hi => by refine (g105L0_eq ..).trans ?_; rw [List.length_map, if_neg (lss_f hi)])
  rw [Nat.sub_zero] at this
  refine Eq.trans this ?_
  cases (List.range' 0 l.length).all (at2 sameMv l m) <;> rfl
 ·rw [if_pos (show (cop .neq (l.length : Int) (m.length : Int)) = true by simp only [CQ]; omega), decide_eq_false h]
  rfl
def sameS : Slot → Slot → Bool := fun a b => decide (a.op = b.op) && decide (a.lock.core = b.lock.core ∧ a.lock.op = b.lock.op ∧ a.lock.part = b.lock.part) && sameN a.node b.node
theorem s22 (l m : List Slot) (hl : l.length < 2 ^ 63) (pl : ∀ x ∈ l, x.node.path.length < 2 ^ 63) (pm : ∀ x ∈ m, x.node.path.length < 2 ^ 63) : g22 (l.map slotc) (m.map slotc) = some (sameL sameS l m) := by
 rw [g22_eq, List.length_map, List.length_map]
 unfold sameL
 by_cases h : l.length = m.length
 ·rw [if_neg (show ¬ (cop .neq (l.length : Int) (m.length : Int)) = true by simp only [CQ]; omega), decide_eq_true h, Bool.true_and]
  have := scan_all (F := fun k i => g22L0 k (l.map slotc) (m.map slotc) i) (n := l.length) (fin := some true) (bad := some false) (at2 sameS l m) hl 0 (by omega)
   (fun k i _ hi => by
    have hi' : i < m.length := by omega
    refine (g22L0_eq ..).trans ?_
    rw [List.length_map, if_pos (lss_t hi)]
    refine (elem_slots hi _).trans ?_
    refine (elem_slots hi' _).trans ?_
    rw [inc_i hi hl, at2_at _ hi hi']
    generalize g22L0 k (l.map slotc) (m.map slotc) ((i + 1 : Nat) : Int) = X
    try simp only [elem_slots hi, elem_slots hi', slotV, d2, d4, d8, d16, s19' _ _ (pl _ (List.getElem_mem hi)) (pm _ (List.getElem_mem hi')), Option.bind_some]
    generalize l[i] = a
    generalize m[i] = b
    unfold sameS
    repeat' split
    all_goals (simp only [eqlD, CQ] at * <;> grind))
   (fun k i hi => by refine (g22L0_eq ..).trans ?_; rw [List.length_map, if_neg (lss_f hi)])
  rw [Nat.sub_zero] at this
  refine Eq.trans this ?_
  cases (List.range' 0 l.length).all (at2 sameS l m) <;> rfl
 ·rw [if_pos (show (cop .neq (l.length : Int) (m.length : Int)) = true by simp only [CQ]; omega), decide_eq_false h]
  rfl
theorem s145 (l m : List Req) (hl : l.length < 2 ^ 63) (pl : ∀ x ∈ l, x.src.path.length < 2 ^ 63) (pm : ∀ x ∈ m, x.src.path.length < 2 ^ 63) : g145 (l.map reqc) (m.map reqc) = some (sameL sameR l m) := by
 rw [g145_eq, List.length_map, List.length_map]
 unfold sameL
 by_cases h : l.length = m.length
 ·rw [if_neg (show ¬ (cop .neq (l.length : Int) (m.length : Int)) = true by simp only [CQ]; omega), decide_eq_true h, Bool.true_and]
  have := scan_all (F := fun k i => g145L0 k (l.map reqc) (m.map reqc) i) (n := l.length) (fin := some true) (bad := some false) (at2 sameR l m) hl 0 (by omega)
   (fun k i _ hi => by
    have hi' : i < m.length := by omega
    refine (g145L0_eq ..).trans ?_
    rw [List.length_map, if_pos (lss_t hi)]
    refine (elem_reqs hi _).trans ?_
    refine (elem_reqs hi' _).trans ?_
    rw [inc_i hi hl, at2_at _ hi hi']
    generalize g145L0 k (l.map reqc) (m.map reqc) ((i + 1 : Nat) : Int) = X
    try simp only [elem_reqs hi, elem_reqs hi', reqV, d2, d4, d8, d16, s102 _ _ (pl _ (List.getElem_mem hi)) (pm _ (List.getElem_mem hi')), Option.bind_some]
    skip
    repeat' split
    all_goals (simp only [eqlD, CQ] at * <;> grind))
   (fun k i hi => by refine (g145L0_eq ..).trans ?_; rw [List.length_map, if_neg (lss_f hi)])
  rw [Nat.sub_zero] at this
  refine Eq.trans this ?_
  cases (List.range' 0 l.length).all (at2 sameR l m) <;> rfl
 ·rw [if_pos (show (cop .neq (l.length : Int) (m.length : Int)) = true by simp only [CQ]; omega), decide_eq_false h]
  rfl
def sameMk : Mark → Mark → Bool := fun a b => decide (a.region = b.region ∧ a.op.core = b.op.core ∧ a.op.op = b.op.op ∧ a.op.part = b.op.part)
theorem s36 (l m : List Mark) (hl : l.length < 2 ^ 63) : g36 (l.map markc) (m.map markc) = some (sameL sameMk l m) := by
 rw [g36_eq, List.length_map, List.length_map]
 unfold sameL
 by_cases h : l.length = m.length
 ·rw [if_neg (show ¬ (cop .neq (l.length : Int) (m.length : Int)) = true by simp only [CQ]; omega), decide_eq_true h, Bool.true_and]
  have := scan_all (F := fun k i => g36L0 k (l.map markc) (m.map markc) i) (n := l.length) (fin := some true) (bad := some false) (at2 sameMk l m) hl 0 (by omega)
   (fun k i _ hi => by
    have hi' : i < m.length := by omega
    refine (g36L0_eq ..).trans ?_
    rw [List.length_map, if_pos (lss_t hi)]
    refine (elem_marks hi _).trans ?_
    refine (elem_marks hi' _).trans ?_
    rw [inc_i hi hl, at2_at _ hi hi']
    generalize g36L0 k (l.map markc) (m.map markc) ((i + 1 : Nat) : Int) = X
    try simp only [elem_marks hi, elem_marks hi', d2, d4, d8, d16, Option.bind_some]
    generalize l[i] = a
    generalize m[i] = b
    unfold sameMk
    repeat' split
    all_goals (simp only [eqlD, CQ] at * <;> grind))
   (fun k i hi => by refine (g36L0_eq ..).trans ?_; rw [List.length_map, if_neg (lss_f hi)])
  rw [Nat.sub_zero] at this
  refine Eq.trans this ?_
  cases (List.range' 0 l.length).all (at2 sameMk l m) <;> rfl
 ·rw [if_pos (show (cop .neq (l.length : Int) (m.length : Int)) = true by simp only [CQ]; omega), decide_eq_false h]
  rfl
def sameA : Ans → Ans → Bool := fun a b => decide (a.op = b.op ∧ a.err = b.err)
theorem s146 (l m : List Ans) (hl : l.length < 2 ^ 63) : g146 (l.map ansc) (m.map ansc) = some (sameL sameA l m) := by
 rw [g146_eq, List.length_map, List.length_map]
 unfold sameL
 by_cases h : l.length = m.length
 ·rw [if_neg (show ¬ (cop .neq (l.length : Int) (m.length : Int)) = true by simp only [CQ]; omega), decide_eq_true h, Bool.true_and]
  have := scan_all (F := fun k i => g146L0 k (l.map ansc) (m.map ansc) i) (n := l.length) (fin := some true) (bad := some false) (at2 sameA l m) hl 0 (by omega)
   (fun k i _ hi => by
    have hi' : i < m.length := by omega
    refine (g146L0_eq ..).trans ?_
    rw [List.length_map, if_pos (lss_t hi)]
    refine (elem_anss hi _).trans ?_
    refine (elem_anss hi' _).trans ?_
    rw [inc_i hi hl, at2_at _ hi hi']
    generalize g146L0 k (l.map ansc) (m.map ansc) ((i + 1 : Nat) : Int) = X
    try simp only [elem_anss hi, elem_anss hi', d2, d4, d8, d16, Option.bind_some]
    generalize l[i] = a
    generalize m[i] = b
    unfold sameA
    repeat' split
    all_goals (simp only [eqlD, CQ] at * <;> grind))
   (fun k i hi => by refine (g146L0_eq ..).trans ?_; rw [List.length_map, if_neg (lss_f hi)])
  rw [Nat.sub_zero] at this
  refine Eq.trans this ?_
  cases (List.range' 0 l.length).all (at2 sameA l m) <;> rfl
 ·rw [if_pos (show (cop .neq (l.length : Int) (m.length : Int)) = true by simp only [CQ]; omega), decide_eq_false h]
  rfl
def sameE : Entry → Entry → Bool := fun a b => decide (a.core = b.core) && decide (a.slot = b.slot) && sameN a.node b.node
theorem s147 (l m : List Entry) (hl : l.length < 2 ^ 63) (pl : ∀ x ∈ l, x.node.path.length < 2 ^ 63) (pm : ∀ x ∈ m, x.node.path.length < 2 ^ 63) : g147 (l.map entryc) (m.map entryc) = some (sameL sameE l m) := by
 rw [g147_eq, List.length_map, List.length_map]
 unfold sameL
 by_cases h : l.length = m.length
 ·rw [if_neg (show ¬ (cop .neq (l.length : Int) (m.length : Int)) = true by simp only [CQ]; omega), decide_eq_true h, Bool.true_and]
  have := scan_all (F := fun k i => g147L0 k (l.map entryc) (m.map entryc) i) (n := l.length) (fin := some true) (bad := some false) (at2 sameE l m) hl 0 (by omega)
   (fun k i _ hi => by
    have hi' : i < m.length := by omega
    refine (g147L0_eq ..).trans ?_
    rw [List.length_map, if_pos (lss_t hi)]
    refine (elem_entries hi _).trans ?_
    refine (elem_entries hi' _).trans ?_
    rw [inc_i hi hl, at2_at _ hi hi']
    generalize g147L0 k (l.map entryc) (m.map entryc) ((i + 1 : Nat) : Int) = X
    try simp only [elem_entries hi, elem_entries hi', entryV, d2, d4, d8, d16, s19' _ _ (pl _ (List.getElem_mem hi)) (pm _ (List.getElem_mem hi')), Option.bind_some]
    generalize l[i] = a
    generalize m[i] = b
    unfold sameE
    repeat' split
    all_goals (simp only [eqlD, CQ] at * <;> grind))
   (fun k i hi => by refine (g147L0_eq ..).trans ?_; rw [List.length_map, if_neg (lss_f hi)])
  rw [Nat.sub_zero] at this
  refine Eq.trans this ?_
  cases (List.range' 0 l.length).all (at2 sameE l m) <;> rfl
 ·rw [if_pos (show (cop .neq (l.length : Int) (m.length : Int)) = true by simp only [CQ]; omega), decide_eq_false h]
  rfl
def sameV (a b : View) : Bool := cop .eql a.number b.number && (sameL sameI a.members b.members && sameL sameI a.owners b.owners)
def sameSt (a b : State) : Bool := sameL sameS a.slots b.slots && (sameL sameR a.pending b.pending && (sameL sameMk a.marks b.marks && (sameL sameA a.answers b.answers && (sameL sameE a.entries b.entries && decide (a.commits = b.commits)))))
def sameRep (a b : Report) : Bool := cop .eql a.core b.core && (sameV a.view b.view && (sameSt a.state b.state && ((a.ready == b.ready) && (sameV a.next b.next && sameSt a.proposal b.proposal))))
theorem s106 (a b : View) (h : a.Fits) : g106 a.number (intCells a.members) (intCells a.owners) b.number (intCells b.members) (intCells b.owners) = some (sameV a b) := by
 rw [g106_eq, s104 _ _ h.members, s104 _ _ h.owners]
 exact and_if _ (and_if _ rfl)
theorem s107 (a b : State) (h : a.Fits) (h' : b.Fits) : g107 (a.slots.map slotc) (a.pending.map reqc) (a.marks.map markc) (a.answers.map ansc) (a.entries.map entryc) (idCells a.commits) (b.slots.map slotc) (b.pending.map reqc) (b.marks.map markc) (b.answers.map ansc) (b.entries.map entryc) (idCells b.commits) = some (sameSt a b) := by
 rw [g107_eq, s22 _ _ h.slots h.slot h'.slot, s145 _ _ h.pending h.req h'.req, s36 _ _ h.marks, s146 _ _ h.answers, s147 _ _ h.entries h.entry h'.entry, s46 _ _ h.commits h'.commits]
 exact and_if _ (and_if _ (and_if _ (and_if _ (and_if _ rfl))))
theorem s108 (a b : Report) (h : a.Fits) (h' : b.Fits) : g108 a.core a.view.number (intCells a.view.members) (intCells a.view.owners) (a.state.slots.map slotc) (a.state.pending.map reqc) (a.state.marks.map markc) (a.state.answers.map ansc) (a.state.entries.map entryc) (idCells a.state.commits) a.ready a.next.number (intCells a.next.members) (intCells a.next.owners) (a.proposal.slots.map slotc) (a.proposal.pending.map reqc) (a.proposal.marks.map markc) (a.proposal.answers.map ansc) (a.proposal.entries.map entryc) (idCells a.proposal.commits) b.core b.view.number (intCells b.view.members) (intCells b.view.owners) (b.state.slots.map slotc) (b.state.pending.map reqc) (b.state.marks.map markc) (b.state.answers.map ansc) (b.state.entries.map entryc) (idCells b.state.commits) b.ready b.next.number (intCells b.next.members) (intCells b.next.owners) (b.proposal.slots.map slotc) (b.proposal.pending.map reqc) (b.proposal.marks.map markc) (b.proposal.answers.map ansc) (b.proposal.entries.map entryc) (idCells b.proposal.commits) = some (sameRep a b) := by
 rw [g108_eq, s106 _ _ h.view, s107 _ _ h.state h'.state, s106 _ _ h.next, s107 _ _ h.proposal h'.proposal]
 exact and_if _ (and_if _ (and_if _ (and_if _ (and_if _ rfl))))
theorem nif (c : Bool) {y : Bool} {x : Option Bool} (h : x = some y) : (if c = true then some false else x) = some (!c && y) := by cases c <;> simp [h]
def sameM (a b : Msg) : Bool := !cop .neq a.kind b.kind && (!cop .neq a.view b.view && (!cop .neq a.frm b.frm && (!cop .neq a.to b.to && (!cop .neq a.round b.round && (!cop .neq a.region b.region && (!cop .neq a.slot b.slot && (!(!((cop .eql a.op.core b.op.core) && ((cop .eql a.op.op b.op.op) && ((cop .eql a.op.part b.op.part) && true)))) && (!cop .neq a.err b.err && (!(!(a.settled == b.settled)) && (!cop .neq a.base b.base && (sameR a.req b.req && (decide (a.ids = b.ids) && (sameL sameN a.nodes b.nodes && (sameL sameI a.cores b.cores && (sameL sameMv a.moves b.moves && (sameV a.next b.next && (sameSt a.state b.state && sameRep a.report b.report)))))))))))))))))
theorem s62 (a b : Msg) (h : a.Fits) (h' : b.Fits) : g62 a.kind a.view a.frm a.to a.round a.region a.slot a.op.core a.op.op a.op.part a.err a.settled a.req.id.core a.req.id.op a.req.id.part a.req.call.kind a.req.call.slot a.req.call.dest a.req.call.core a.req.call.mask a.req.call.object a.req.call.bits a.req.call.level a.req.call.offset a.req.call.count a.req.call.index a.req.call.addr a.req.region a.req.width a.req.src.id.core a.req.src.id.op a.req.src.id.part (idCells a.req.src.path) a.req.src.cap.kind a.req.src.cap.base a.req.src.cap.bits a.req.src.cap.rights a.req.src.cap.width a.req.src.cap.level a.req.src.cap.device (idCells a.ids) (a.nodes.map nodec) (intCells a.cores) (a.moves.map movec) a.base a.next.number (intCells a.next.members) (intCells a.next.owners) (a.state.slots.map slotc) (a.state.pending.map reqc) (a.state.marks.map markc) (a.state.answers.map ansc) (a.state.entries.map entryc) (idCells a.state.commits) a.report.core a.report.view.number (intCells a.report.view.members) (intCells a.report.view.owners) (a.report.state.slots.map slotc) (a.report.state.pending.map reqc) (a.report.state.marks.map markc) (a.report.state.answers.map ansc) (a.report.state.entries.map entryc) (idCells a.report.state.commits) a.report.ready a.report.next.number (intCells a.report.next.members) (intCells a.report.next.owners) (a.report.proposal.slots.map slotc) (a.report.proposal.pending.map reqc) (a.report.proposal.marks.map markc) (a.report.proposal.answers.map ansc) (a.report.proposal.entries.map entryc) (idCells a.report.proposal.commits) b.kind b.view b.frm b.to b.round b.region b.slot b.op.core b.op.op b.op.part b.err b.settled b.req.id.core b.req.id.op b.req.id.part b.req.call.kind b.req.call.slot b.req.call.dest b.req.call.core b.req.call.mask b.req.call.object b.req.call.bits b.req.call.level b.req.call.offset b.req.call.count b.req.call.index b.req.call.addr b.req.region b.req.width b.req.src.id.core b.req.src.id.op b.req.src.id.part (idCells b.req.src.path) b.req.src.cap.kind b.req.src.cap.base b.req.src.cap.bits b.req.src.cap.rights b.req.src.cap.width b.req.src.cap.level b.req.src.cap.device (idCells b.ids) (b.nodes.map nodec) (intCells b.cores) (b.moves.map movec) b.base b.next.number (intCells b.next.members) (intCells b.next.owners) (b.state.slots.map slotc) (b.state.pending.map reqc) (b.state.marks.map markc) (b.state.answers.map ansc) (b.state.entries.map entryc) (idCells b.state.commits) b.report.core b.report.view.number (intCells b.report.view.members) (intCells b.report.view.owners) (b.report.state.slots.map slotc) (b.report.state.pending.map reqc) (b.report.state.marks.map markc) (b.report.state.answers.map ansc) (b.report.state.entries.map entryc) (idCells b.report.state.commits) b.report.ready b.report.next.number (intCells b.report.next.members) (intCells b.report.next.owners) (b.report.proposal.slots.map slotc) (b.report.proposal.pending.map reqc) (b.report.proposal.marks.map markc) (b.report.proposal.answers.map ansc) (b.report.proposal.entries.map entryc) (idCells b.report.proposal.commits) = some (sameM a b) := by
 rw [g62_eq, s102 _ _ h.req h'.req, s46 _ _ h.ids h'.ids, s103 _ _ h.nodes h.node h'.node, s104 _ _ h.cores, s105 _ _ h.moves, s106 _ _ h.next, s107 _ _ h.state h'.state, s108 _ _ h.report h'.report]
 exact nif _ (nif _ (nif _ (nif _ (nif _ (nif _ (nif _ (nif _ (nif _ (nif _ (nif _ (and_if _ (and_if _ (and_if _ (and_if _ (and_if _ (and_if _ (and_if _ (rfl))))))))))))))))))
theorem sameL_refl {α : Type} (q : α → α → Bool) (hq : ∀ a, q a a = true) (l : List α) : sameL q l l = true := by
 unfold sameL
 rw [decide_eq_true rfl, Bool.true_and, List.all_eq_true]
 intro i hi
 have hi' : i < l.length := by simpa [List.mem_range'] using hi
 rw [at2_at q hi' hi', hq]
theorem sameL_nil {α : Type} (q : α → α → Bool) (l : List α) : sameL q l [] = decide (l.length = 0) := by
 unfold sameL
 cases l with
 | nil => rfl
 | cons a r => simp
theorem sameN_refl (a : Node) : sameN a a = true := by simp [sameN]
theorem sameR_refl (a : Req) : sameR a a = true := by simp [sameR, sameN_refl]
theorem sameR_zero (a : Req) : sameR a noReq = zReq a := by
 have : decide (a.id.core = noReq.id.core ∧ a.id.op = noReq.id.op ∧ a.id.part = noReq.id.part) = decide (a.id = zid) := by
  rw [bool_iff, decide_eq_true_eq, decide_eq_true_eq]
  constructor
  ·rintro ⟨h1, h2, h3⟩
   rcases h : a.id with ⟨x, y, z⟩
   rw [h] at h1 h2 h3
   simp only [noReq, zid] at h1 h2 h3
   subst h1 h2 h3
   rfl
  ·intro h; rw [h]; exact ⟨rfl, rfl, rfl⟩
 unfold sameR zReq
 rw [this]
 rfl
theorem sameV_refl (a : View) : sameV a a = true := by
 simp [sameV, sameL_refl sameI (fun a => by simp [sameI]), cop]
theorem sameV_zero (a : View) : sameV a noView = zView a := by
 unfold sameV zView
 rw [show noView.members = [] from rfl, show noView.owners = [] from rfl, sameL_nil, sameL_nil, Bool.and_assoc]
 rfl
theorem sameSt_refl (a : State) : sameSt a a = true := by
 simp [sameSt, sameL_refl sameS (fun a => by simp [sameS, sameN_refl]), sameL_refl sameR sameR_refl, sameL_refl sameMk (fun a => by simp [sameMk]), sameL_refl sameA (fun a => by simp [sameA]), sameL_refl sameE (fun a => by simp [sameE, sameN_refl])]
theorem sameSt_zero (a : State) : sameSt a noState = zState a := by
 have : decide (a.commits = ([] : List Id)) = decide (a.commits.length = 0) := by
  rw [bool_iff, decide_eq_true_eq, decide_eq_true_eq, List.length_eq_zero_iff]
 unfold sameSt zState
 rw [show noState.slots = [] from rfl, show noState.pending = [] from rfl, show noState.marks = [] from rfl, show noState.answers = [] from rfl, show noState.entries = [] from rfl, show noState.commits = [] from rfl, sameL_nil, sameL_nil, sameL_nil, sameL_nil, sameL_nil, this]
 simp only [Bool.and_assoc]
theorem sameRep_refl (a : Report) : sameRep a a = true := by simp [sameRep, sameV_refl, sameSt_refl, cop]
theorem sameRep_zero (a : Report) : sameRep a noReport = zReport a := by
 unfold sameRep zReport
 rw [show noReport.view = noView from rfl, show noReport.next = noView from rfl, show noReport.state = noState from rfl, show noReport.proposal = noState from rfl, sameV_zero, sameV_zero, sameSt_zero, sameSt_zero]
 have e : (a.ready == noReport.ready) = !a.ready := by cases a.ready <;> rfl
 rw [e]
 simp only [Bool.and_assoc]
 rfl
theorem sameM_refl (a : Msg) : sameM a a = true := by
 simp [sameM, sameR_refl, sameL_refl sameN sameN_refl, sameL_refl sameI (fun a => by simp [sameI]), sameL_refl sameMv (fun a => by simp [sameMv]), sameV_refl, sameSt_refl, sameRep_refl, cop]
end Go.Proofs.YtljejgmcgddppaaGreat
end
