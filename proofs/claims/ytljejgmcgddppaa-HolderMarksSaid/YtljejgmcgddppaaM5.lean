/- End23m, K11a, K11b, K12a, K12d, K18a, K18b, K18c, K18d, K18e, K18f, K18g, K18h, K18i, K24a, K24c, K24d, K23a, K23b, K23c, K23d: texts of the proof, put together. -/
import Derived.Test.YtljejgmcgddppaaRows
import Derived.Test.YtljejgmcgddppaaChecked
import Derived.Test.YtljejgmcgddppaaM4
import Derived.JoinedOf
import Derived.JoinedAt
import Derived.RowKit3
import Derived.KernelRfl
import Derived.Test.YtljejgmcgddppaaF23mc

section
namespace Go.Proofs.Ytljejgmcgddppaa
open Go Go.AM
set_option maxRecDepth 100000
theorem behind : ∃ ws, behindMainWord (wordsSigns Try.prog.initOrder.toList) = "cut".toList :: ws := by
 have h : Try.prog.initOrder.toList = _ := String.toList_ofList (l := _)
 rw [h]
 exact behind_words (by kernel_rfl) (by kernel_rfl) (by kernel_rfl) (by kernel_rfl) (by kernel_rfl) (by kernel_rfl)
theorem enters : Try.prog.mayEnter = true := behind.elim fun _ h => Go.AM.enters_of h (by kernel_rfl) (by kernel_rfl) (by kernel_rfl)
theorem lifts : Try.prog.liftsFinal = false := behind.elim fun _ h => Go.AM.final_of h
theorem makeIs : Try.prog.make = some .cut := behind.elim fun _ h => Go.AM.make_of h
theorem laid : laidOutB Try.prog = true := by kernel_rfl
theorem ownKnobOk : ownKnob Try.prog.godebug = none := by kernel_rfl
theorem ty_int {d : Nat} {cs : List AV} (h : TyR Try.prog (d + 1) 3 cs) : ∃ z, cs = [I z] := by
 simp only [TyR, Try.underlying3] at h
 obtain ⟨z, h, _⟩ := h
 exact ⟨z, h⟩
theorem arg_int {x : AV} (h : ArgTy Try.prog 12 3 x) : ∃ z, x = I z := by
 simp only [ArgTy, Try.underlying3] at h
 obtain ⟨z, hz⟩ := ty_int h.2
 exact ⟨z, by simpa using hz⟩
def i64c (z : Int) : List AV := [I z]
def intCells (l : List Int) : List (List AV) := l.map i64c
structure Id where
 core : Int
 op : Int
 part : Int
 deriving DecidableEq
def idc (i : Id) : List AV := [I i.core, I i.op, I i.part]
def idCells (l : List Id) : List (List AV) := l.map idc
theorem list_lift {α β : Type} {f : α → β} {p : α → Prop} : ∀ (xs : List β), (∀ x ∈ xs, ∃ a, x = f a ∧ p a) → ∃ l : List α, xs = l.map f ∧ ∀ a ∈ l, p a
 | [], _ => ⟨[], rfl, by simp⟩
 | x :: xs, h => by
  obtain ⟨a, h1, h2⟩ := h x (by simp)
  obtain ⟨l, h3, h4⟩ := list_lift xs fun y hy => h y (by simp [hy])
  refine ⟨a :: l, by rw [h1, h3]; rfl, fun b hb => ?_⟩
  rcases List.mem_cons.1 hb with rfl | hb
  ·exact h2
  ·exact h4 b hb
theorem cells3 : Try.prog.cellsOf 3 = 1 := by kernel_rfl
theorem arg_ints {x : AV} (h : ArgTy Try.prog 12 22 x) : ∃ l, x = .slice false 1 (intCells l) ∧ l.length ≤ maxLen := by
 simp only [ArgTy, Try.underlying22] at h
 have hh := h.2
 rw [TyR] at hh
 simp only [Try.underlying22, cells3] at hh
 obtain ⟨xs, h1, h2, h3⟩ := hh
 obtain ⟨l, rfl, h5⟩ := list_lift (f := i64c) (p := fun _ => True) xs fun y hy => by
  have := h3 y hy
  rw [TyR] at this
  simp only [Try.underlying3] at this
  obtain ⟨z, rfl, hz⟩ := this
  exact ⟨z, rfl, trivial⟩
 exact ⟨l, by simpa [intCells] using h1, by simpa using h2⟩
def parTs : List TypeId := [22]
theorem parOk (t : TypeId) (h : parTs.contains t = true) : fineB Try.prog 12 t = true ∧ t < Try.prog.types.size ∧ Try.prog.readableRec t = true := by
 have h2 : parTs.all (fun t => fineB Try.prog 12 t && decide (t < Try.prog.types.size) && Try.prog.readableRec t) = true := by kernel_rfl
 rw [List.all_eq_true] at h2
 have := h2 t (by simpa using h)
 simpa [and_assoc] using this
end Go.Proofs.Ytljejgmcgddppaa
end

section
namespace Go.Proofs.Ytljejgmcgddppaa
open Go Go.AM
set_option linter.unusedSimpArgs false
set_option linter.unusedVariables false
set_option maxRecDepth 100000
def sizeOk (k b : Int) : Bool := decide ((k = 1 ∧ 6 ≤ b ∧ b ≤ 40) ∨ (k = 2 ∧ 12 ≤ b ∧ b ≤ 40) ∨ (k = 3 ∧ b = 12) ∨ (k = 4 ∧ b = 6) ∨ (k = 5 ∧ b = 10) ∨ (k = 6 ∧ b = 16))
theorem s77 (k b : Int) : g77 k b = some (sizeOk k b) := by
 rw [g77_eq]
 repeat' split
 all_goals (refine congrArg some ?_; rw [bool_iff]; simp only [sizeOk, CQ] at *; omega)
def formOk (w l : Int) : Bool := decide ((w = 32 ∧ 0 ≤ l ∧ l ≤ 1) ∨ (w = 39 ∧ 0 ≤ l ∧ l ≤ 2))
theorem s80 (w l : Int) : g80 w l = some (formOk w l) := by
 rw [g80_eq]
 repeat' split
 all_goals (refine congrArg some ?_; rw [bool_iff]; simp only [formOk, CQ] at *; omega)
def rngOk (a b : Int) : Bool := decide (6 ≤ b ∧ b ≤ 40 ∧ 0 ≤ a ∧ a % 2 ^ b.toNat = 0 ∧ a + 2 ^ b.toNat ≤ 1099511627776)
theorem pow_hi {b : Int} (h : b ≤ 40) : (2 : Int) ^ b.toNat ≤ 1099511627776 := by
 have := pow_le2 (m := b.toNat) (n := 40) (by omega)
 have e : (2 : Int) ^ 40 = 1099511627776 := by decide
 omega
theorem rem_pow {a : Int} {n : Nat} (h : 0 ≤ a) : iop .rem .i64 a (2 ^ n) = a % 2 ^ n := Int.tmod_eq_emod_of_nonneg h
theorem sub_hi {b : Int} (h : b ≤ 40) : iop .sub .i64 1099511627776 (2 ^ b.toNat) = 1099511627776 - 2 ^ b.toNat := by
 have := pow_hi h
 have := pow_pos2 b.toNat
 exact wrap_of (by omega) (by omega)
theorem s78 (a b : Int) : g78 a b = some (rngOk a b) := by
 have hp := pow_pos2 b.toNat
 rw [g78_eq]
 by_cases h1 : 6 ≤ b ∧ b ≤ 40 ∧ 0 ≤ a
 ·obtain ⟨h1, h2, h3⟩ := h1
  have hs : iop .shl .i64 1 b = 2 ^ b.toNat := shl1 (by omega)
  have hr : reqK ((0 : Int) ≤ b) = fun (x : Option Bool) => x := funext fun x => reqK_pos (by omega) x
  have hn : reqK (((2 : Int) ^ b.toNat) ≠ 0) = fun (x : Option Bool) => x := funext fun x => reqK_pos (by omega) x
  simp only [hs, hr, hn, rem_pow h3, sub_hi h2]
  repeat' split
  all_goals (refine congrArg some ?_; rw [bool_iff]; simp only [rngOk, CQ] at *; omega)
 ·have hf : rngOk a b = false := by simp only [rngOk, decide_eq_false_iff_not]; omega
  rw [hf]
  repeat' split
  all_goals first | rfl | (exfalso; simp only [CQ] at *; omega)
structure Cap where
 kind : Int
 base : Int
 bits : Int
 rights : Int
 width : Int
 level : Int
 device : Bool
theorem s79 (k b s r w l : Int) (d : Bool) : g79 k b s r w l d = some (b, s) := g79_eq ..
def capOk (c : Cap) : Bool := sizeOk c.kind c.bits && rngOk c.base c.bits && decide (0 ≤ c.rights ∧ c.rights ≤ 7) && (if c.kind = 3 then formOk c.width c.level else decide (c.width = 0 ∧ c.level = 0)) && (!c.device || decide (c.kind = 1) || decide (c.kind = 2))
theorem s63 (k b s r w l : Int) (d : Bool) : g63 k b s r w l d = some (capOk ⟨k, b, s, r, w, l, d⟩) := by
 rw [g63_eq]
 simp only [s77, s79, s78, s80, Option.bind_some]
 repeat' split
 all_goals (refine congrArg some ?_; rw [bool_iff]; simp only [capOk, CQ] at *; grind)
end Go.Proofs.Ytljejgmcgddppaa
end

section
namespace Go.Proofs.Ytljejgmcgddppaa
open Go Go.AM
set_option linter.unusedSimpArgs false
set_option linter.unusedVariables false
set_option maxRecDepth 100000
theorem fuel_lt {n : Nat} (h : n < 2 ^ 64) : n < FUEL := by
 have : FUEL = 1208925819614629174706176 := rfl
 omega
theorem fuel6 : ∃ f, FUEL = f + 1 + 1 + 1 + 1 + 1 + 1 := ⟨FUEL - 6, by decide⟩
end Go.Proofs.Ytljejgmcgddppaa
end

section
namespace Go.Proofs.Ytljejgmcgddppaa
open Go Go.AM
set_option linter.unusedSimpArgs false
set_option linter.unusedVariables false
set_option maxRecDepth 100000
abbrev idSh : List Sh := [.int .i64, .int .i64, .int .i64]
def idOk (i : Id) : Bool := decide (0 ≤ i.core ∧ i.core < 32 ∧ 1 ≤ i.op ∧ i.op ≤ 1073741824 ∧ 0 ≤ i.part ∧ i.part < 8)
theorem s42 (a b c : Int) : g42 a b c = some (idOk ⟨a, b, c⟩) := by
 rw [g42_eq]
 repeat' split
 all_goals (refine congrArg some ?_; rw [bool_iff]; simp only [idOk, CQ] at *; omega)
theorem s103 (a : Int) : g103 a = some false := by
 rw [g103_eq]
 simp [cop]
def cmpI (a b : Int) : Int := if a < b then -1 else if b < a then 1 else 0
theorem s102 (a b : Int) : g102 a b = some (cmpI a b) := by
 rw [g102_eq]
 simp only [s103, Option.bind_some, Bool.false_eq_true, if_false]
 by_cases h1 : a < b
 ·rw [if_pos (by simp only [CQ]; omega), cmpI, if_pos h1]
 ·by_cases h2 : b < a
  ·rw [if_neg (by simp only [CQ]; omega), if_pos (by simp only [CQ]; omega), cmpI, if_neg h1, if_pos h2]
  ·rw [if_neg (by simp only [CQ]; omega), if_neg (by simp only [CQ]; omega), cmpI, if_neg h1, if_neg h2]
def firstNZ (x y z : Int) : Int := if x ≠ 0 then x else if y ≠ 0 then y else z
theorem s101 (x y z : Int) : g101 (((([] : List (List AV)) ++ [[AV.val (.int .i64 x)]]) ++ [[AV.val (.int .i64 y)]]) ++ [[AV.val (.int .i64 z)]]) = some (firstNZ x y z) := by
 obtain ⟨f, hf⟩ := fuel6
 have e : (((([] : List (List AV)) ++ [[AV.val (.int .i64 x)]]) ++ [[AV.val (.int .i64 y)]]) ++ [[AV.val (.int .i64 z)]]) = [i64c x, i64c y, i64c z] := rfl
 have e1 : iop .add .i64 0 1 = 1 := by decide
 have e2 : iop .add .i64 1 1 = 2 := by decide
 have e3 : iop .add .i64 2 1 = 3 := by decide
 have hl : (([i64c x, i64c y, i64c z] : List (List AV)).length : Int) = 3 := rfl
 rw [g101_eq, e, hf, hl]
 rw [g101L0_eq, if_pos (by decide), elemK_at (sh := [.int .i64]) (cs := i64c x) (r := x) _ (by decide) rfl rfl]
 by_cases hx : x = 0
 ·rw [if_neg (by simp only [CQ]; omega), e1, g101L0_eq, if_pos (by decide), elemK_at (sh := [.int .i64]) (cs := i64c y) (r := y) _ (by decide) rfl rfl]
  by_cases hy : y = 0
  ·rw [if_neg (by simp only [CQ]; omega), e2, g101L0_eq, if_pos (by decide), elemK_at (sh := [.int .i64]) (cs := i64c z) (r := z) _ (by decide) rfl rfl]
   by_cases hz : z = 0
   ·rw [if_neg (by simp only [CQ]; omega), e3, g101L0_eq, if_neg (by decide)]
    simp [firstNZ, hx, hy, hz]
   ·rw [if_pos (by simp only [CQ]; omega)]
    simp [firstNZ, hx, hy]
  ·rw [if_pos (by simp only [CQ]; omega)]
   simp [firstNZ, hx, hy]
 ·rw [if_pos (by simp only [CQ]; omega)]
  simp [firstNZ, hx]
theorem s98 (a b c d e f : Int) : g98 a b c d e f = some (firstNZ (cmpI a d) (cmpI b e) (cmpI c f)) := by
 rw [g98_eq]
 simp only [s102, Option.bind_some, s101]
def idLt (a b c d e f : Int) : Bool := decide (a < d ∨ (a = d ∧ (b < e ∨ (b = e ∧ c < f))))
theorem s86 (a b c d e f : Int) : g86 a b c d e f = some (idLt a b c d e f) := by
 rw [g86_eq, s98, Option.bind_some]
 refine congrArg some ?_
 rw [bool_iff]
 simp only [idLt, CQ, cmpI, firstNZ]
 repeat' split
 all_goals omega
theorem ids_len (l : List Id) : (idCells l).length = l.length := by simp [idCells]
theorem ids_take (l : List Id) (n : Nat) : (idCells l).take n = idCells (l.take n) := by simp [idCells, List.map_take]
theorem ids_at {l : List Id} {i : Nat} {x : Id} (h : l[i]? = some x) : (idCells l)[i]? = some (idc x) := by simp [idCells, h]
theorem elem_id {γ : Type} {l : List Id} {i : Int} {x : Id} (k : (Int × Int × Int) → Option γ) (h0 : 0 ≤ i) (h : l[i.toNat]? = some x) : elemK (idCells l) i idSh k = k (x.core, x.op, x.part) :=
 elemK_at (sh := idSh) (r := (x.core, x.op, x.part)) k h0 (ids_at h) rfl
theorem id_eqb (a b c d e f : Int) : ((cop .eql a d && (cop .eql b e && (cop .eql c f && true))) = true) ↔ ((⟨a, b, c⟩ : Id) = ⟨d, e, f⟩) := by
 simp only [CQ, Id.mk.injEq, and_true]
theorem l58 {l : List Id} (hl : l.length < 2 ^ 63) (a b c : Int) : ∀ (j i fuel : Nat), l.length = i + j → j < fuel → ∃ r, g58L0 fuel (idCells l) a b c (l.length : Int) i = some r ∧ (0 ≤ r ↔ (⟨a, b, c⟩ : Id) ∈ l.drop i) := by
 intro j
 induction j with
 | zero =>
  intro i fuel h hf
  obtain ⟨f, rfl⟩ : ∃ f, fuel = f + 1 := ⟨fuel - 1, by omega⟩
  refine ⟨-1, by rw [g58L0_eq, if_neg (by simp only [CQ]; omega)], ?_⟩
  rw [List.drop_of_length_le (by omega)]
  simp
 | succ j ih =>
  intro i fuel h hf
  obtain ⟨f, rfl⟩ : ∃ f, fuel = f + 1 := ⟨fuel - 1, by omega⟩
  have hi : i < l.length := by omega
  have hat : l[(i : Int).toNat]? = some l[i] := by simp
  have a4 : iop .add .i64 i 1 = ((i + 1 : Nat) : Int) := by rw [add_i (by omega) (by omega)]; omega
  rw [g58L0_eq, if_pos (by simp only [CQ]; omega), elem_id _ (by omega) hat, a4, List.drop_eq_getElem_cons hi]
  by_cases he : (⟨a, b, c⟩ : Id) = l[i]
  ·refine ⟨i, ?_, ?_⟩
   ·rw [if_pos]
    rw [id_eqb]
    exact he
   ·rw [List.mem_cons]
    exact ⟨fun _ => .inl he, fun _ => by omega⟩
  ·obtain ⟨r, h1, h2⟩ := ih (i + 1) f (by omega) (by omega)
   refine ⟨r, ?_, ?_⟩
   ·rw [if_neg, h1]
    rw [id_eqb]
    exact he
   ·rw [h2, List.mem_cons]
    simp [he]
theorem s29 (l : List Id) (hl : l.length < 2 ^ 63) (a b c : Int) : g29 (idCells l) a b c = some (l.contains ⟨a, b, c⟩) := by
 obtain ⟨r, h1, h2⟩ := l58 hl a b c l.length 0 FUEL (by omega) (fuel_lt (by omega))
 rw [g29_eq, g58_eq, ids_len]
 have h1' : g58L0 FUEL (idCells l) a b c (l.length : Int) 0 = some r := h1
 rw [h1', Option.bind_some]
 refine congrArg some ?_
 rw [bool_iff]
 simp only [CQ, List.contains_iff_mem]
 rw [List.drop_zero] at h2
 exact h2
structure Node where
 id : Id
 path : List Id
 cap : Cap
def pathAt (n : Node) (i : Nat) : Bool := match n.path[i]? with | none => true | some x => idOk x && decide (x ≠ n.id) && !(n.path.take i).contains x
def nodeOk (n : Node) : Bool := idOk n.id && capOk n.cap && decide (n.path.length ≤ 8) && (List.range n.path.length).all (pathAt n)
theorem l38 (n : Node) (hl : n.path.length < 2 ^ 63) : ∀ (j i fuel : Nat), n.path.length = i + j → j < fuel →
  g38L0 fuel n.id.core n.id.op n.id.part (idCells n.path) n.cap.kind n.cap.base n.cap.bits n.cap.rights n.cap.width n.cap.level n.cap.device (idCells n.path) (n.path.length : Int) i = some ((List.range' i j).all (pathAt n)) := by
 intro j
 induction j with
 | zero =>
  intro i fuel h hf
  obtain ⟨f, rfl⟩ : ∃ f, fuel = f + 1 := ⟨fuel - 1, by omega⟩
  rw [g38L0_eq, if_neg (by simp only [CQ]; omega)]
  rfl
 | succ j ih =>
  intro i fuel h hf
  obtain ⟨f, rfl⟩ : ∃ f, fuel = f + 1 := ⟨fuel - 1, by omega⟩
  have hi : i < n.path.length := by omega
  have hat : n.path[(i : Int).toNat]? = some n.path[i] := by simp
  have a4 : iop .add .i64 i 1 = ((i + 1 : Nat) : Int) := by rw [add_i (by omega) (by omega)]; omega
  have hp : pathAt n i = (idOk n.path[i] && decide (n.path[i] ≠ n.id) && !(n.path.take i).contains n.path[i]) := by
   unfold pathAt
   rw [List.getElem?_eq_getElem hi]
  have hlt : (n.path.take i).length < 2 ^ 63 := by rw [List.length_take]; omega
  rw [g38L0_eq, if_pos (by simp only [CQ]; omega), elem_id _ (by omega) hat, a4, List.range'_succ, List.all_cons, hp]
  simp only [s42, Option.bind_some]
  cases h1 : idOk n.path[i] with
  | false => simp
  | true =>
   rw [if_neg (by simp)]
   by_cases h2 : n.path[i] = n.id
   ·rw [if_pos (by rw [id_eqb]; exact h2)]
    simp [h2]
   ·rw [if_neg (by rw [id_eqb]; exact h2), reqK_pos (by omega), reqK_pos (by rw [ids_len]; omega), Int.toNat_natCast, ids_take, s29 _ hlt, Option.bind_some]
    cases h3 : (n.path.take i).contains n.path[i] with
    | true => simp
    | false =>
     rw [if_neg (by simp)]
     have := ih (i + 1) f (by omega) (by omega)
     rw [this]
     simp [h2]
theorem s38 (n : Node) (hl : n.path.length < 2 ^ 63) : g38 n.id.core n.id.op n.id.part (idCells n.path) n.cap.kind n.cap.base n.cap.bits n.cap.rights n.cap.width n.cap.level n.cap.device = some (nodeOk n) := by
 rw [g38_eq]
 simp only [s42, s63, Option.bind_some, ids_len]
 unfold nodeOk
 cases h1 : idOk n.id with
 | false => simp [show (⟨n.id.core, n.id.op, n.id.part⟩ : Id) = n.id from rfl, h1]
 | true =>
  cases h2 : capOk n.cap with
  | false => simp [show (⟨n.id.core, n.id.op, n.id.part⟩ : Id) = n.id from rfl, h1, show (⟨n.cap.kind, n.cap.base, n.cap.bits, n.cap.rights, n.cap.width, n.cap.level, n.cap.device⟩ : Cap) = n.cap from rfl, h2]
  | true =>
   rw [if_neg (by simp), if_neg (by simp)]
   by_cases h3 : n.path.length ≤ 8
   ·rw [if_neg (by simp only [CQ]; omega)]
    have := l38 n hl n.path.length 0 FUEL (by omega) (fuel_lt (by omega))
    have e : (List.range' 0 n.path.length) = List.range n.path.length := (List.range_eq_range' ..).symm
    rw [e] at this
    refine this.trans ?_
    simp [h3]
   ·rw [if_pos (by simp only [CQ]; omega)]
    simp [h3]
end Go.Proofs.Ytljejgmcgddppaa
end

section
namespace Go.Proofs.Ytljejgmcgddppaa
open Go Go.AM
set_option linter.unusedSimpArgs false
set_option linter.unusedVariables false
set_option maxRecDepth 100000
end Go.Proofs.Ytljejgmcgddppaa
end

section
namespace Go.Proofs.Ytljejgmcgddppaa
open Go Go.AM
set_option linter.unusedSimpArgs false
set_option linter.unusedVariables false
set_option maxRecDepth 100000
theorem fuel63 {n : Nat} (h : n < 2 ^ 63) : n + 1 < FUEL := by
 have : (2 : Nat) ^ 64 ≤ FUEL := by decide
 omega
theorem inc_i {i n : Nat} (h : i < n) (hn : n < 2 ^ 63) : iop .add .i64 (i : Int) 1 = ((i + 1 : Nat) : Int) := by
 rw [add_i (by omega) (by omega)]; omega
theorem lss_t {i n : Nat} (h : i < n) : (cop .lss (i : Int) (n : Int)) = true := by
 simp only [CQ]; omega
theorem lss_f {i n : Nat} (h : n ≤ i) : ¬ (cop .lss (i : Int) (n : Int)) = true := by
 simp only [CQ]; omega
theorem scan_all {γ : Type} {F : Nat → Int → Option γ} {n : Nat} {fin bad : Option γ} (p : Nat → Bool) (hn : n < 2 ^ 63) (i0 : Nat) (hi0 : i0 ≤ 1)
  (step : ∀ k i : Nat, i0 ≤ i → i < n → F (k + 1) (i : Int) = if p i = true then F k ((i + 1 : Nat) : Int) else bad)
  (last : ∀ k i : Nat, n ≤ i → F (k + 1) (i : Int) = fin) : F FUEL (i0 : Int) = if (List.range' i0 (n - i0)).all p = true then fin else bad := by
 have key : ∀ (j i fuel : Nat), i0 ≤ i → n ≤ i + j → j < fuel → F fuel (i : Int) = if (List.range' i (n - i)).all p = true then fin else bad := by
  intro j
  induction j with
  | zero =>
   intro i fuel h0 h hf
   obtain ⟨f, rfl⟩ : ∃ f, fuel = f + 1 := ⟨fuel - 1, by omega⟩
   rw [last f i (by omega), show n - i = 0 by omega]
   rfl
  | succ j ih =>
   intro i fuel h0 h hf
   obtain ⟨f, rfl⟩ : ∃ f, fuel = f + 1 := ⟨fuel - 1, by omega⟩
   by_cases hi : i < n
   ·rw [step f i h0 hi, show n - i = (n - (i + 1)) + 1 by omega, List.range'_succ, List.all_cons]
    cases hp : p i with
    | true => rw [if_pos rfl, ih (i + 1) f (by omega) (by omega) (by omega), Bool.true_and]
    | false => rw [if_neg Bool.false_ne_true, Bool.false_and, if_neg Bool.false_ne_true]
   ·rw [last f i (by omega), show n - i = 0 by omega]
    rfl
 exact key n i0 FUEL (Nat.le_refl _) (by omega) (by have := fuel63 hn; omega)
theorem scan_idx {F : Nat → Int → Option Int} {n : Nat} (p : Nat → Bool) (hn : n < 2 ^ 63)
  (step : ∀ k i : Nat, i < n → F (k + 1) (i : Int) = if p i = true then some (i : Int) else F k ((i + 1 : Nat) : Int))
  (last : ∀ k i : Nat, n ≤ i → F (k + 1) (i : Int) = some (-1)) : ∃ r, F FUEL 0 = some r ∧ cop .geq r 0 = (List.range' 0 n).any p := by
 have key : ∀ (j i fuel : Nat), n ≤ i + j → j < fuel → ∃ r, F fuel (i : Int) = some r ∧ cop .geq r 0 = (List.range' i (n - i)).any p := by
  intro j
  induction j with
  | zero =>
   intro i fuel h hf
   obtain ⟨f, rfl⟩ : ∃ f, fuel = f + 1 := ⟨fuel - 1, by omega⟩
   rw [last f i (by omega), show n - i = 0 by omega]
   exact ⟨_, rfl, rfl⟩
  | succ j ih =>
   intro i fuel h hf
   obtain ⟨f, rfl⟩ : ∃ f, fuel = f + 1 := ⟨fuel - 1, by omega⟩
   by_cases hi : i < n
   ·rw [step f i hi, show n - i = (n - (i + 1)) + 1 by omega, List.range'_succ, List.any_cons]
    cases hp : p i with
    | true =>
     rw [if_pos rfl, Bool.true_or]
     refine ⟨_, rfl, ?_⟩
     simp only [CQ]
     omega
    | false => rw [if_neg Bool.false_ne_true, Bool.false_or]; exact ih (i + 1) f (by omega) (by omega)
   ·rw [last f i (by omega), show n - i = 0 by omega]
    exact ⟨_, rfl, rfl⟩
 have := key n 0 FUEL (by omega) (by have := fuel63 hn; omega)
 simpa using this
def atB {α : Type} (q : α → Bool) (l : List α) (i : Nat) : Bool := match l[i]? with | some x => q x | none => true
theorem atB_at {α : Type} (q : α → Bool) {l : List α} {i : Nat} (h : i < l.length) : atB q l i = q l[i] := by
 unfold atB
 rw [List.getElem?_eq_getElem h]
theorem all_at {α : Type} (q : α → Bool) (l : List α) : (List.range' 0 l.length).all (atB q l) = l.all q := by
 rw [bool_iff, List.all_eq_true, List.all_eq_true]
 constructor
 ·intro h x hx
  obtain ⟨i, hi, rfl⟩ := List.getElem_of_mem hx
  have := h i (by simp [List.mem_range', hi])
  rwa [atB_at q hi] at this
 ·intro h i hi
  have hi' : i < l.length := by simpa [List.mem_range'] using hi
  rw [atB_at q hi']
  exact h _ (List.getElem_mem hi')
theorem any_at {α : Type} (q : α → Bool) (l : List α) : (List.range' 0 l.length).any (fun i => !atB q l i) = !(l.all q) := by
 rw [← all_at q l, List.any_eq_not_all_not]
 simp
def prevB {α : Type} (lt : α → α → Bool) (l : List α) : Nat → Bool
 | 0 => true
 | j + 1 => match l[j]?, l[j + 1]? with | some a, some b => lt a b | _, _ => true
def ascB {α : Type} (lt : α → α → Bool) (l : List α) : Bool := (List.range' 0 l.length).all (prevB lt l)
theorem prev_at {α : Type} (lt : α → α → Bool) {l : List α} {j : Nat} (h : j + 1 < l.length) : prevB lt l (j + 1) = lt l[j] l[j + 1] := by
 show (match l[j]?, l[j + 1]? with | some a, some b => lt a b | _, _ => true) = _
 rw [List.getElem?_eq_getElem h, List.getElem?_eq_getElem (show j < l.length by omega)]
theorem asc1 {α : Type} (lt : α → α → Bool) (l : List α) : (List.range' 1 (l.length - 1)).all (prevB lt l) = ascB lt l := by
 unfold ascB
 cases l with
 | nil => rfl
 | cons a r => rw [show (a :: r).length = ((a :: r).length - 1) + 1 from rfl, List.range'_succ, List.all_cons]; rfl
structure Call where
 kind : Int
 slot : Int
 dest : Int
 core : Int
 mask : Int
 object : Int
 bits : Int
 level : Int
 offset : Int
 count : Int
 index : Int
 addr : Int
structure Req where
 id : Id
 call : Call
 region : Int
 width : Int
 src : Node
structure Slot where
 node : Node
 op : Int
 lock : Id
structure Mark where
 region : Int
 op : Id
structure Ans where
 op : Int
 err : Int
structure Entry where
 core : Int
 slot : Int
 node : Node
structure Move where
 region : Int
 to : Int
structure View where
 number : Int
 members : List Int
 owners : List Int
structure State where
 slots : List Slot
 pending : List Req
 marks : List Mark
 answers : List Ans
 entries : List Entry
 commits : List Id
structure Report where
 core : Int
 view : View
 state : State
 ready : Bool
 next : View
 proposal : State
def nodec (n : Node) : List AV := [I n.id.core, I n.id.op, I n.id.part, .slice false 3 (idCells n.path), I n.cap.kind, I n.cap.base, I n.cap.bits, I n.cap.rights, I n.cap.width, I n.cap.level, B n.cap.device]
def reqc (r : Req) : List AV := [I r.id.core, I r.id.op, I r.id.part, I r.call.kind, I r.call.slot, I r.call.dest, I r.call.core, I r.call.mask, I r.call.object, I r.call.bits, I r.call.level, I r.call.offset, I r.call.count, I r.call.index, I r.call.addr, I r.region, I r.width, I r.src.id.core, I r.src.id.op, I r.src.id.part, .slice false 3 (idCells r.src.path), I r.src.cap.kind, I r.src.cap.base, I r.src.cap.bits, I r.src.cap.rights, I r.src.cap.width, I r.src.cap.level, B r.src.cap.device]
def slotc (s : Slot) : List AV := [I s.node.id.core, I s.node.id.op, I s.node.id.part, .slice false 3 (idCells s.node.path), I s.node.cap.kind, I s.node.cap.base, I s.node.cap.bits, I s.node.cap.rights, I s.node.cap.width, I s.node.cap.level, B s.node.cap.device, I s.op, I s.lock.core, I s.lock.op, I s.lock.part]
def markc (m : Mark) : List AV := [I m.region, I m.op.core, I m.op.op, I m.op.part]
def ansc (a : Ans) : List AV := [I a.op, I a.err]
def movec (a : Move) : List AV := [I a.region, I a.to]
def entryc (e : Entry) : List AV := [I e.core, I e.slot, I e.node.id.core, I e.node.id.op, I e.node.id.part, .slice false 3 (idCells e.node.path), I e.node.cap.kind, I e.node.cap.base, I e.node.cap.bits, I e.node.cap.rights, I e.node.cap.width, I e.node.cap.level, B e.node.cap.device]
abbrev nodeSh : List Sh := [.int .i64, .int .i64, .int .i64, .slice 3, .int .i64, .int .i64, .int .i64, .int .i64, .int .i64, .int .i64, .bool]
abbrev reqSh : List Sh := [.int .i64, .int .i64, .int .i64, .int .i64, .int .i64, .int .i64, .int .i64, .int .i64, .int .i64, .int .i64, .int .i64, .int .i64, .int .i64, .int .i64, .int .i64, .int .i64, .int .i64, .int .i64, .int .i64, .int .i64, .slice 3, .int .i64, .int .i64, .int .i64, .int .i64, .int .i64, .int .i64, .bool]
abbrev slotSh : List Sh := [.int .i64, .int .i64, .int .i64, .slice 3, .int .i64, .int .i64, .int .i64, .int .i64, .int .i64, .int .i64, .bool, .int .i64, .int .i64, .int .i64, .int .i64]
abbrev entrySh : List Sh := [.int .i64, .int .i64, .int .i64, .int .i64, .int .i64, .slice 3, .int .i64, .int .i64, .int .i64, .int .i64, .int .i64, .int .i64, .bool]
def nodeV (n : Node) : ShsT nodeSh := (n.id.core, n.id.op, n.id.part, idCells n.path, n.cap.kind, n.cap.base, n.cap.bits, n.cap.rights, n.cap.width, n.cap.level, n.cap.device)
def reqV (r : Req) : ShsT reqSh := (r.id.core, r.id.op, r.id.part, r.call.kind, r.call.slot, r.call.dest, r.call.core, r.call.mask, r.call.object, r.call.bits, r.call.level, r.call.offset, r.call.count, r.call.index, r.call.addr, r.region, r.width, r.src.id.core, r.src.id.op, r.src.id.part, idCells r.src.path, r.src.cap.kind, r.src.cap.base, r.src.cap.bits, r.src.cap.rights, r.src.cap.width, r.src.cap.level, r.src.cap.device)
def slotV (s : Slot) : ShsT slotSh := (s.node.id.core, s.node.id.op, s.node.id.part, idCells s.node.path, s.node.cap.kind, s.node.cap.base, s.node.cap.bits, s.node.cap.rights, s.node.cap.width, s.node.cap.level, s.node.cap.device, s.op, s.lock.core, s.lock.op, s.lock.part)
def entryV (e : Entry) : ShsT entrySh := (e.core, e.slot, e.node.id.core, e.node.id.op, e.node.id.part, idCells e.node.path, e.node.cap.kind, e.node.cap.base, e.node.cap.bits, e.node.cap.rights, e.node.cap.width, e.node.cap.level, e.node.cap.device)
theorem elem_map {α γ : Type} {f : α → List AV} {sh : List Sh} {v : α → ShsT sh} (hf : ∀ x, ofEs sh (f x) = some (v x)) {l : List α} {i : Nat} (h : i < l.length) (k : ShsT sh → Option γ) : elemK (l.map f) (i : Int) sh k = k (v l[i]) := by
 refine elemK_at k (by omega) (cs := f l[i]) ?_ (hf _)
 rw [Int.toNat_natCast, List.getElem?_map, List.getElem?_eq_getElem h]
 rfl
theorem elem_nodes {γ : Type} {l : List Node} {i : Nat} (h : i < l.length) (k : ShsT nodeSh → Option γ) : elemK (l.map nodec) (i : Int) nodeSh k = k (nodeV l[i]) := elem_map (fun _ => rfl) h k
theorem elem_reqs {γ : Type} {l : List Req} {i : Nat} (h : i < l.length) (k : ShsT reqSh → Option γ) : elemK (l.map reqc) (i : Int) reqSh k = k (reqV l[i]) := elem_map (fun _ => rfl) h k
theorem elem_slots {γ : Type} {l : List Slot} {i : Nat} (h : i < l.length) (k : ShsT slotSh → Option γ) : elemK (l.map slotc) (i : Int) slotSh k = k (slotV l[i]) := elem_map (fun _ => rfl) h k
theorem elem_entries {γ : Type} {l : List Entry} {i : Nat} (h : i < l.length) (k : ShsT entrySh → Option γ) : elemK (l.map entryc) (i : Int) entrySh k = k (entryV l[i]) := elem_map (fun _ => rfl) h k
theorem elem_marks {γ : Type} {l : List Mark} {i : Nat} (h : i < l.length) (k : (Int × Int × Int × Int) → Option γ) : elemK (l.map markc) (i : Int) [.int .i64, .int .i64, .int .i64, .int .i64] k = k (l[i].region, l[i].op.core, l[i].op.op, l[i].op.part) := elem_map (sh := [.int .i64, .int .i64, .int .i64, .int .i64]) (v := fun x => (x.region, x.op.core, x.op.op, x.op.part)) (fun _ => rfl) h k
theorem elem_anss {γ : Type} {l : List Ans} {i : Nat} (h : i < l.length) (k : (Int × Int) → Option γ) : elemK (l.map ansc) (i : Int) [.int .i64, .int .i64] k = k (l[i].op, l[i].err) := elem_map (sh := [.int .i64, .int .i64]) (v := fun x => (x.op, x.err)) (fun _ => rfl) h k
theorem elem_moves {γ : Type} {l : List Move} {i : Nat} (h : i < l.length) (k : (Int × Int) → Option γ) : elemK (l.map movec) (i : Int) [.int .i64, .int .i64] k = k (l[i].region, l[i].to) := elem_map (sh := [.int .i64, .int .i64]) (v := fun x => (x.region, x.to)) (fun _ => rfl) h k
theorem elem_ids {γ : Type} {l : List Id} {i : Nat} (h : i < l.length) (k : (Int × Int × Int) → Option γ) : elemK (idCells l) (i : Int) [.int .i64, .int .i64, .int .i64] k = k (l[i].core, l[i].op, l[i].part) := elem_map (f := idc) (sh := [.int .i64, .int .i64, .int .i64]) (v := fun x => (x.core, x.op, x.part)) (fun _ => rfl) h k
theorem elem_ints {γ : Type} {l : List Int} {i : Nat} (h : i < l.length) (k : Int → Option γ) : elemK (intCells l) (i : Int) [.int .i64] k = k l[i] := elem_map (f := i64c) (sh := [.int .i64]) (v := fun x => x) (fun _ => rfl) h k
theorem id_eta (i : Id) : (⟨i.core, i.op, i.part⟩ : Id) = i := rfl
end Go.Proofs.Ytljejgmcgddppaa
end

section
namespace Go.Proofs.Ytljejgmcgddppaa
open Go Go.AM
set_option linter.unusedSimpArgs false
set_option linter.unusedVariables false
set_option maxRecDepth 100000
def coreOk (z : Int) : Bool := decide (0 ≤ z ∧ z < 32)
def regOk (z : Int) : Bool := decide (0 ≤ z ∧ z < 16)
def slotOk (z : Int) : Bool := decide (0 ≤ z ∧ z < 64)
def errOk (z : Int) : Bool := decide (0 ≤ z ∧ z ≤ 99)
def opOk (i : Id) : Bool := idOk i && decide (i.part = 0)
theorem s20 (z : Int) : g20 z = some (coreOk z) := by
 rw [g20_eq]
 repeat' split
 all_goals (refine congrArg some ?_; rw [bool_iff]; simp only [coreOk, CQ] at *; omega)
theorem s32 (z : Int) : g32 z = some (regOk z) := by
 rw [g32_eq]
 repeat' split
 all_goals (refine congrArg some ?_; rw [bool_iff]; simp only [regOk, CQ] at *; omega)
theorem s39 (z : Int) : g39 z = some (slotOk z) := by
 rw [g39_eq]
 repeat' split
 all_goals (refine congrArg some ?_; rw [bool_iff]; simp only [slotOk, CQ] at *; omega)
theorem s35 (z : Int) : g35 z = some (errOk z) := by
 rw [g35_eq]
 repeat' split
 all_goals (refine congrArg some ?_; rw [bool_iff]; simp only [errOk, CQ] at *; omega)
theorem s34 (i : Id) : g34 i.core i.op i.part = some (opOk i) := by
 rw [g34_eq, s42, Option.bind_some, id_eta]
 repeat' split
 all_goals (refine congrArg some ?_; rw [bool_iff]; simp only [opOk, CQ] at *; grind)
theorem l76 {l m : List Id} (hl : l.length < 2 ^ 63) (h : l.length = m.length) : g76L0 FUEL (idCells l) (idCells m) (l.length : Int) 0 = some (decide (l = m)) := by
 have := scan_all (F := fun k i => g76L0 k (idCells l) (idCells m) (l.length : Int) i) (n := l.length) (fin := some true) (bad := some false) (fun i => decide (l[i]? = m[i]?)) hl 0 (by omega)
  (fun k i _ hi => by
   have hm : i < m.length := by omega
   show g76L0 (k + 1) _ _ _ _ = _
   rw [g76L0_eq, if_pos (lss_t hi), elem_ids hi, elem_ids hm, inc_i hi hl]
   rw [List.getElem?_eq_getElem hi, List.getElem?_eq_getElem hm]
   by_cases he : l[i] = m[i]
   ·rw [if_neg (by rw [Bool.not_eq_true', ← Bool.not_eq_true, id_eqb]; exact fun h => h he), if_pos (by simp [he])]
   ·rw [if_pos (by rw [Bool.not_eq_true', ← Bool.not_eq_true, id_eqb]; exact he), if_neg (by simp [he])])
  (fun k i hi => by show g76L0 (k + 1) _ _ _ _ = _; rw [g76L0_eq, if_neg (lss_f hi)])
 refine this.trans ?_
 have e : (List.range' 0 (l.length - 0)).all (fun i => decide (l[i]? = m[i]?)) = decide (l = m) := by
  rw [bool_iff, List.all_eq_true, decide_eq_true_eq]
  constructor
  ·intro hh
   refine List.ext_getElem? fun i => ?_
   by_cases hi : i < l.length
   ·exact of_decide_eq_true (hh i (by simp [List.mem_range', hi]))
   ·rw [List.getElem?_eq_none (by omega), List.getElem?_eq_none (by omega)]
  ·rintro rfl i _
   exact decide_eq_true rfl
 rw [e]
 cases decide (l = m) <;> rfl
theorem s76 (l m : List Id) (hl : l.length < 2 ^ 63) : g76 (idCells l) (idCells m) = some (decide (l = m)) := by
 rw [g76_eq, ids_len, ids_len]
 by_cases h : l.length = m.length
 ·rw [if_neg (by simp [cop, h]), l76 hl h]
 ·rw [if_pos (by simp [cop]; omega)]
  have : ¬ l = m := fun he => h (by rw [he])
  simp [this]
def sameN (a b : Node) : Bool := decide (a.id = b.id) && decide (a.cap.kind = b.cap.kind ∧ a.cap.base = b.cap.base ∧ a.cap.bits = b.cap.bits ∧ a.cap.rights = b.cap.rights ∧ a.cap.width = b.cap.width ∧ a.cap.level = b.cap.level ∧ a.cap.device = b.cap.device) && decide (a.path = b.path)
theorem cap_eqb (a b : Cap) : (((cop .eql a.kind b.kind) && ((cop .eql a.base b.base) && ((cop .eql a.bits b.bits) && ((cop .eql a.rights b.rights) && ((cop .eql a.width b.width) && ((cop .eql a.level b.level) && ((a.device == b.device) && true))))))) = true) ↔ (a.kind = b.kind ∧ a.base = b.base ∧ a.bits = b.bits ∧ a.rights = b.rights ∧ a.width = b.width ∧ a.level = b.level ∧ a.device = b.device) := by
 simp only [CQ, beq_iff_eq, and_true]
theorem s61 (a b : Node) (ha : a.path.length < 2 ^ 63) : g61 a.id.core a.id.op a.id.part (idCells a.path) a.cap.kind a.cap.base a.cap.bits a.cap.rights a.cap.width a.cap.level a.cap.device b.id.core b.id.op b.id.part (idCells b.path) b.cap.kind b.cap.base b.cap.bits b.cap.rights b.cap.width b.cap.level b.cap.device = some (sameN a b) := by
 rw [g61_eq, s76 _ _ ha, Option.bind_some]
 unfold sameN
 refine ite_goal (fun h => ?_) fun h => ?_
 ·rw [id_eqb] at h
  refine ite_goal (fun h2 => ?_) fun h2 => ?_
  ·rw [cap_eqb] at h2
   rw [decide_eq_true (show a.id = b.id from h), decide_eq_true h2]; rfl
  ·rw [cap_eqb] at h2
   rw [decide_eq_true (show a.id = b.id from h), decide_eq_false h2]; rfl
 ·rw [id_eqb] at h
  rw [decide_eq_false (show ¬ a.id = b.id from h)]; rfl
def noNode : Node := ⟨⟨0, 0, 0⟩, [], ⟨0, 0, 0, 0, 0, 0, false⟩⟩
theorem s61z (a : Node) (ha : a.path.length < 2 ^ 63) : g61 a.id.core a.id.op a.id.part (idCells a.path) a.cap.kind a.cap.base a.cap.bits a.cap.rights a.cap.width a.cap.level a.cap.device 0 0 0 ([] : List (List AV)) 0 0 0 0 0 0 false = some (sameN a noNode) := s61 a noNode ha
def reqOk (r : Req) : Bool := opOk r.id && decide (1 ≤ r.call.kind ∧ r.call.kind ≤ 6) && regOk r.region && decide (r.width = 32 ∨ r.width = 39) && (if r.call.kind = 1 then sameN r.src noNode else nodeOk r.src)
theorem s33 (r : Req) (hr : r.src.path.length < 2 ^ 63) : g33 r.id.core r.id.op r.id.part r.call.kind r.call.slot r.call.dest r.call.core r.call.mask r.call.object r.call.bits r.call.level r.call.offset r.call.count r.call.index r.call.addr r.region r.width r.src.id.core r.src.id.op r.src.id.part (idCells r.src.path) r.src.cap.kind r.src.cap.base r.src.cap.bits r.src.cap.rights r.src.cap.width r.src.cap.level r.src.cap.device = some (reqOk r) := by
 rw [g33_eq]
 simp only [s34, s32, s61z _ hr, s38 _ hr, Option.bind_some]
 repeat' split
 all_goals (refine congrArg some ?_; rw [bool_iff]; simp only [reqOk, CQ] at *; grind)
end Go.Proofs.Ytljejgmcgddppaa
end

section
namespace Go.Proofs.Ytljejgmcgddppaa
open Go Go.AM
set_option linter.unusedSimpArgs false
set_option linter.unusedVariables false
set_option maxRecDepth 100000
theorem scan_hit {γ : Type} {F : Nat → Int → Option γ} {n : Nat} {miss : γ} (hit : Nat → γ) (p : Nat → Bool) (hn : n < 2 ^ 63)
  (step : ∀ k i : Nat, i < n → F (k + 1) (i : Int) = if p i = true then some (hit i) else F k ((i + 1 : Nat) : Int))
  (last : ∀ k i : Nat, n ≤ i → F (k + 1) (i : Int) = some miss) :
  (∃ i, i < n ∧ p i = true ∧ (∀ j, j < i → p j = false) ∧ F FUEL 0 = some (hit i)) ∨ ((∀ j, j < n → p j = false) ∧ F FUEL 0 = some miss) := by
 have key : ∀ (j i fuel : Nat), n ≤ i + j → j < fuel → (∃ m, i ≤ m ∧ m < n ∧ p m = true ∧ (∀ j, i ≤ j → j < m → p j = false) ∧ F fuel (i : Int) = some (hit m)) ∨ ((∀ j, i ≤ j → j < n → p j = false) ∧ F fuel (i : Int) = some miss) := by
  intro j
  induction j with
  | zero =>
   intro i fuel h hf
   obtain ⟨f, rfl⟩ : ∃ f, fuel = f + 1 := ⟨fuel - 1, by omega⟩
   exact .inr ⟨fun j h1 h2 => by omega, last f i (by omega)⟩
  | succ j ih =>
   intro i fuel h hf
   obtain ⟨f, rfl⟩ : ∃ f, fuel = f + 1 := ⟨fuel - 1, by omega⟩
   by_cases hi : i < n
   ·rw [step f i hi]
    cases hp : p i with
    | true => exact .inl ⟨i, Nat.le_refl _, hi, hp, fun j h1 h2 => by omega, if_pos rfl⟩
    | false =>
     rw [if_neg Bool.false_ne_true]
     rcases ih (i + 1) f (by omega) (by omega) with ⟨m, h1, h2, h3, h4, h5⟩ | ⟨h1, h2⟩
     ·refine .inl ⟨m, by omega, h2, h3, fun j h6 h7 => ?_, h5⟩
      by_cases he : j = i
      ·rw [he]; exact hp
      ·exact h4 j (by omega) h7
     ·refine .inr ⟨fun j h6 h7 => ?_, h2⟩
      by_cases he : j = i
      ·rw [he]; exact hp
      ·exact h1 j (by omega) h7
   ·exact .inr ⟨fun j h1 h2 => by omega, last f i (by omega)⟩
 rcases key n 0 FUEL (by omega) (by have := fuel63 hn; omega) with ⟨m, _, h2, h3, h4, h5⟩ | ⟨h1, h2⟩
 ·exact .inl ⟨m, h2, h3, fun j hj => h4 j (by omega) hj, h5⟩
 ·exact .inr ⟨fun j hj => h1 j (by omega) hj, h2⟩
def zid : Id := ⟨0, 0, 0⟩
def hitS (i : Id) (t : Slot) : Bool := !decide (t.node.id = zid) && decide (t.node.id = i)
def slot1 (s : Slot) : Bool := decide (0 ≤ s.op ∧ s.op ≤ 1073741824) && (if s.node.id = zid then sameN s.node noNode && decide (s.lock = zid) else nodeOk s.node && (decide (s.lock = zid) || opOk s.lock))
def uniqAt (l : List Slot) (i : Nat) : Bool := match l[i]? with | some s => !((l.take i).any (hitS s.node.id)) | none => true
def slotsOk (l : List Slot) : Bool := decide (l.length ≤ 64) && (List.range' 0 l.length).all (fun i => atB slot1 l i && uniqAt l i)
theorem zid_eqb (a b c : Int) : ((cop .eql a 0 && (cop .eql b 0 && (cop .eql c 0 && true))) = true) ↔ ((⟨a, b, c⟩ : Id) = zid) := id_eqb a b c 0 0 0
theorem s82 (s : Slot) (hs : s.node.path.length < 2 ^ 63) : g82 s.node.id.core s.node.id.op s.node.id.part (idCells s.node.path) s.node.cap.kind s.node.cap.base s.node.cap.bits s.node.cap.rights s.node.cap.width s.node.cap.level s.node.cap.device s.op s.lock.core s.lock.op s.lock.part = some (slot1 s) := by
 rw [g82_eq]
 simp only [g25_eq, s61z _ hs, s38 _ hs, s42, Option.bind_some, zid_eqb, id_eta]
 have e : cop .eql s.lock.part 0 = decide (s.lock.part = 0) := rfl
 have e2 : ((cop .eql s.lock.core 0) && ((cop .eql s.lock.op 0) && ((cop .eql s.lock.part 0) && true))) = decide (s.lock = zid) := by
  rw [bool_iff, zid_eqb, id_eta, decide_eq_true_eq]
 simp only [e2]
 repeat' split
 all_goals (refine congrArg some ?_; rw [bool_iff]; simp only [slot1, opOk, CQ] at *; grind)
theorem slots_len (l : List Slot) : (l.map slotc).length = l.length := List.length_map _
theorem s56 (l : List Slot) (hl : l.length < 2 ^ 63) (a b c : Int) : ∃ r, g56 (l.map slotc) a b c = some (r, l.any (hitS ⟨a, b, c⟩)) := by
 rw [g56_eq, slots_len]
 have := scan_hit (F := fun k i => g56L0 k a b c (l.map slotc) (l.length : Int) i) (n := l.length) (miss := ((0 : Int), false)) (fun i => ((i : Int), true)) (atB (hitS ⟨a, b, c⟩) l) hl
  (fun k i hi => by
   show g56L0 (k + 1) _ _ _ _ _ _ = _
   rw [g56L0_eq, if_pos (lss_t hi)]
   refine (elem_slots hi _).trans ?_
   simp only [slotV, d2, d4, d8, d16]
   rw [g25_eq, Option.bind_some, inc_i hi hl, atB_at _ hi]
   generalize l[i] = t
   simp only [zid_eqb, id_eqb, id_eta, Bool.not_eq_true']
   unfold hitS
   by_cases h1 : t.node.id = zid
   ·rw [if_neg (by simp only [Bool.not_eq_false]; rw [zid_eqb]; exact h1), if_neg (by simp [h1])]
   ·rw [if_pos (by rw [← Bool.not_eq_true, zid_eqb]; exact h1)]
    by_cases h2 : t.node.id = ⟨a, b, c⟩
    ·rw [if_pos (by exact h2), if_pos (by simp [h1, h2]; exact fun h => h1 (h2.trans h))]
    ·rw [if_neg (by exact h2), if_neg (by simp [h1, h2])])
  (fun k i hi => by show g56L0 (k + 1) _ _ _ _ _ _ = _; rw [g56L0_eq, if_neg (lss_f hi)])
 rcases this with ⟨i, h1, h2, h3, h4⟩ | ⟨h1, h2⟩
 ·refine ⟨i, ?_⟩
  have e : l.any (hitS ⟨a, b, c⟩) = true := by
   rw [atB_at _ h1] at h2
   exact List.any_eq_true.2 ⟨l[i], List.getElem_mem h1, h2⟩
  rw [e]; exact h4
 ·refine ⟨0, ?_⟩
  have e : l.any (hitS ⟨a, b, c⟩) = false := by
   rw [List.any_eq_false]
   intro x hx
   obtain ⟨j, hj, rfl⟩ := List.getElem_of_mem hx
   have := h1 j hj
   rw [atB_at _ hj] at this
   rw [this]; exact Bool.false_ne_true
  rw [e]; exact h2
theorem s68 (l : List Slot) (hl : l.length < 2 ^ 63) (hp : ∀ s ∈ l, s.node.path.length < 2 ^ 63) : g68 (l.map slotc) = some (slotsOk l) := by
 rw [g68_eq, slots_len]
 unfold slotsOk
 refine ite_goal (fun h => ?_) fun h => ?_
 ·rw [decide_eq_false (by simp only [CQ] at h; omega), Bool.false_and]
 ·rw [decide_eq_true (by simp only [CQ] at h; omega), Bool.true_and]
  have := scan_all (F := fun k i => g68L0 k (l.map slotc) (l.map slotc) (l.length : Int) i) (n := l.length) (fin := some true) (bad := some false) (fun i => atB slot1 l i && uniqAt l i) hl 0 (by omega)
   (fun k i _ hi => by
    show g68L0 (k + 1) _ _ _ _ = _
    rw [g68L0_eq, if_pos (lss_t hi)]
    refine (elem_slots hi _).trans ?_
    simp only [slotV, d2, d4, d8, d16]
    obtain ⟨r, hr⟩ := s56 (l.take i) (by rw [List.length_take]; omega) l[i].node.id.core l[i].node.id.op l[i].node.id.part
    have hu : uniqAt l i = !((l.take i).any (hitS l[i].node.id)) := by unfold uniqAt; rw [List.getElem?_eq_getElem hi]
    rw [s82 _ (hp _ (List.getElem_mem hi)), Option.bind_some, reqK_pos (by omega), reqK_pos (by rw [slots_len]; omega), Int.toNat_natCast, ← List.map_take, hr, Option.bind_some, inc_i hi hl, atB_at _ hi, hu, id_eta]
    cases slot1 l[i] <;> cases (l.take i).any (hitS l[i].node.id) <;> rfl)
   (fun k i hi => by show g68L0 (k + 1) _ _ _ _ = _; rw [g68L0_eq, if_neg (lss_f hi)])
  refine this.trans ?_
  rw [Nat.sub_zero]
  cases (List.range' 0 l.length).all (fun i => atB slot1 l i && uniqAt l i) <;> rfl
end Go.Proofs.Ytljejgmcgddppaa
end

section
namespace Go.Proofs.Ytljejgmcgddppaa
open Go Go.AM
set_option linter.unusedSimpArgs false
set_option linter.unusedVariables false
set_option maxRecDepth 100000
theorem dec_i {j : Nat} (h : j + 1 < 2 ^ 63) : iop .sub .i64 ((j + 1 : Nat) : Int) 1 = (j : Int) := by
 rw [sub_i (by omega) (by omega)]; omega
def ltId (a b : Id) : Bool := idLt a.core a.op a.part b.core b.op b.part
def markOk (m : Mark) : Bool := regOk m.region && opOk m.op
def ansOk (a : Ans) : Bool := decide (1 ≤ a.op ∧ a.op ≤ 1073741824) && errOk a.err
def entOk (e : Entry) : Bool := coreOk e.core && slotOk e.slot && nodeOk e.node
def ltp : Req → Req → Bool := fun a b => ltId a.id b.id
theorem s84 (x : Req) (hx : x.src.path.length < 2 ^ 63) : g84 x.id.core x.id.op x.id.part x.call.kind x.call.slot x.call.dest x.call.core x.call.mask x.call.object x.call.bits x.call.level x.call.offset x.call.count x.call.index x.call.addr x.region x.width x.src.id.core x.src.id.op x.src.id.part (idCells x.src.path) x.src.cap.kind x.src.cap.base x.src.cap.bits x.src.cap.rights x.src.cap.width x.src.cap.level x.src.cap.device = some (!reqOk x) := by
 rw [g84_eq, s33 x hx, Option.bind_some]
theorem s97c84 (l : List Req) (hl : l.length < 2 ^ 63) (hp : ∀ x ∈ l, x.src.path.length < 2 ^ 63) : ∃ r, g97c84 (l.map reqc) = some r ∧ cop .geq r 0 = !(l.all reqOk) := by
 rw [g97c84_eq, List.length_map]
 have := scan_idx (F := fun k i => g97c84L0 k (l.map reqc) (l.length : Int) i) (n := l.length) (fun i => !atB reqOk l i) hl
  (fun k i hi => by
   show g97c84L0 (k + 1) _ _ _ = _
   rw [g97c84L0_eq, if_pos (lss_t hi)]
   refine (elem_reqs hi _).trans ?_
   simp only [reqV, d2, d4, d8, d16]
   rw [s84 l[i] (hp _ (List.getElem_mem hi)), Option.bind_some, inc_i hi hl, atB_at _ hi])
  (fun k i hi => by show g97c84L0 (k + 1) _ _ _ = _; rw [g97c84L0_eq, if_neg (lss_f hi)])
 rw [any_at] at this
 exact this
theorem s83c84 (l : List Req) (hl : l.length < 2 ^ 63) (hp : ∀ x ∈ l, x.src.path.length < 2 ^ 63) : g83c84 (l.map reqc) = some (!(l.all reqOk)) := by
 obtain ⟨r, h1, h2⟩ := s97c84 l hl hp
 rw [g83c84_eq, h1, Option.bind_some, h2]
theorem s85 (l : List Req) {j : Nat} (hj : j + 1 < l.length) : g85 (j : Int) ((j + 1 : Nat) : Int) (l.map reqc) = some (ltp l[j] l[j + 1], l.map reqc) := by
 rw [g85_eq]
 refine (elem_reqs (show j < l.length by omega) _).trans ?_
 refine (elem_reqs hj _).trans ?_
 simp only [reqV, d2, d4, d8, d16]
 rw [s86, Option.bind_some]; rfl
theorem s45c85 (l : List Req) (hl : l.length < 2 ^ 63) : g45c85 (l.length : Int) (l.map reqc) = some (ascB ltp l, l.map reqc) := by
 rw [g45c85_eq]
 have := scan_all (F := fun k i => g45c85L0 k (l.length : Int) i (l.map reqc)) (n := l.length) (fin := some (true, l.map reqc)) (bad := some (false, l.map reqc)) (prevB ltp l) hl 1 (by omega)
  (fun k i h1 hi => by
   obtain ⟨j, rfl⟩ : ∃ j, i = j + 1 := ⟨i - 1, by omega⟩
   show g45c85L0 (k + 1) _ _ _ = _
   rw [g45c85L0_eq, if_pos (lss_t hi), dec_i (by omega), s85 l hi, Option.bind_some, inc_i hi hl, prev_at _ hi]
   cases ltp l[j] l[j + 1] <;> rfl)
  (fun k i hi => by show g45c85L0 (k + 1) _ _ _ = _; rw [g45c85L0_eq, if_neg (lss_f hi)])
 rw [asc1] at this
 refine Eq.trans this ?_
 cases ascB ltp l <;> rfl
theorem s69 (l : List Req) (hl : l.length < 2 ^ 63) (hp : ∀ x ∈ l, x.src.path.length < 2 ^ 63) : g69 (l.map reqc) = some (l.all reqOk && ascB ltp l) := by
 rw [g69_eq, s83c84 l hl hp, Option.bind_some, List.length_map, s45c85 l hl, Option.bind_some]
 cases l.all reqOk <;> rfl
def ltm : Mark → Mark → Bool := fun a b => decide (a.region < b.region)
theorem s88 (x : Mark) : g88 x.region x.op.core x.op.op x.op.part = some (!markOk x) := by
 rw [g88_eq]
 simp only [s32, s34, Option.bind_some]
 repeat' split
 all_goals (refine congrArg some ?_; rw [bool_iff]; simp only [markOk, CQ] at * <;> grind)
theorem s57c88 (l : List Mark) (hl : l.length < 2 ^ 63) : ∃ r, g57c88 (l.map markc) = some r ∧ cop .geq r 0 = !(l.all markOk) := by
 rw [g57c88_eq, List.length_map]
 have := scan_idx (F := fun k i => g57c88L0 k (l.map markc) (l.length : Int) i) (n := l.length) (fun i => !atB markOk l i) hl
  (fun k i hi => by
   show g57c88L0 (k + 1) _ _ _ = _
   rw [g57c88L0_eq, if_pos (lss_t hi)]
   refine (elem_marks hi _).trans ?_
   simp only [d2, d4, d8, d16]
   rw [s88 l[i], Option.bind_some, inc_i hi hl, atB_at _ hi])
  (fun k i hi => by show g57c88L0 (k + 1) _ _ _ = _; rw [g57c88L0_eq, if_neg (lss_f hi)])
 rw [any_at] at this
 exact this
theorem s87c88 (l : List Mark) (hl : l.length < 2 ^ 63) : g87c88 (l.map markc) = some (!(l.all markOk)) := by
 obtain ⟨r, h1, h2⟩ := s57c88 l hl
 rw [g87c88_eq, h1, Option.bind_some, h2]
theorem s89 (l : List Mark) {j : Nat} (hj : j + 1 < l.length) : g89 (j : Int) ((j + 1 : Nat) : Int) (l.map markc) = some (ltm l[j] l[j + 1], l.map markc) := by
 rw [g89_eq]
 refine (elem_marks (show j < l.length by omega) _).trans ?_
 refine (elem_marks hj _).trans ?_
 simp only [d2, d4, d8, d16]
 rfl
theorem s45c89 (l : List Mark) (hl : l.length < 2 ^ 63) : g45c89 (l.length : Int) (l.map markc) = some (ascB ltm l, l.map markc) := by
 rw [g45c89_eq]
 have := scan_all (F := fun k i => g45c89L0 k (l.length : Int) i (l.map markc)) (n := l.length) (fin := some (true, l.map markc)) (bad := some (false, l.map markc)) (prevB ltm l) hl 1 (by omega)
  (fun k i h1 hi => by
   obtain ⟨j, rfl⟩ : ∃ j, i = j + 1 := ⟨i - 1, by omega⟩
   show g45c89L0 (k + 1) _ _ _ = _
   rw [g45c89L0_eq, if_pos (lss_t hi), dec_i (by omega), s89 l hi, Option.bind_some, inc_i hi hl, prev_at _ hi]
   cases ltm l[j] l[j + 1] <;> rfl)
  (fun k i hi => by show g45c89L0 (k + 1) _ _ _ = _; rw [g45c89L0_eq, if_neg (lss_f hi)])
 rw [asc1] at this
 refine Eq.trans this ?_
 cases ascB ltm l <;> rfl
theorem s70 (l : List Mark) (hl : l.length < 2 ^ 63) : g70 (l.map markc) = some (l.all markOk && ascB ltm l) := by
 rw [g70_eq, s87c88 l hl, Option.bind_some, List.length_map, s45c89 l hl, Option.bind_some]
 cases l.all markOk <;> rfl
def lta : Ans → Ans → Bool := fun a b => decide (a.op < b.op)
theorem s91 (x : Ans) : g91 x.op x.err = some (!ansOk x) := by
 rw [g91_eq]
 simp only [s35, Option.bind_some]
 repeat' split
 all_goals (refine congrArg some ?_; rw [bool_iff]; simp only [ansOk, CQ] at * <;> grind)
theorem s99c91 (l : List Ans) (hl : l.length < 2 ^ 63) : ∃ r, g99c91 (l.map ansc) = some r ∧ cop .geq r 0 = !(l.all ansOk) := by
 rw [g99c91_eq, List.length_map]
 have := scan_idx (F := fun k i => g99c91L0 k (l.map ansc) (l.length : Int) i) (n := l.length) (fun i => !atB ansOk l i) hl
  (fun k i hi => by
   show g99c91L0 (k + 1) _ _ _ = _
   rw [g99c91L0_eq, if_pos (lss_t hi)]
   refine (elem_anss hi _).trans ?_
   simp only [d2, d4, d8, d16]
   rw [s91 l[i], Option.bind_some, inc_i hi hl, atB_at _ hi])
  (fun k i hi => by show g99c91L0 (k + 1) _ _ _ = _; rw [g99c91L0_eq, if_neg (lss_f hi)])
 rw [any_at] at this
 exact this
theorem s90c91 (l : List Ans) (hl : l.length < 2 ^ 63) : g90c91 (l.map ansc) = some (!(l.all ansOk)) := by
 obtain ⟨r, h1, h2⟩ := s99c91 l hl
 rw [g90c91_eq, h1, Option.bind_some, h2]
theorem s92 (l : List Ans) {j : Nat} (hj : j + 1 < l.length) : g92 (j : Int) ((j + 1 : Nat) : Int) (l.map ansc) = some (lta l[j] l[j + 1], l.map ansc) := by
 rw [g92_eq]
 refine (elem_anss (show j < l.length by omega) _).trans ?_
 refine (elem_anss hj _).trans ?_
 simp only [d2, d4, d8, d16]
 rfl
theorem s45c92 (l : List Ans) (hl : l.length < 2 ^ 63) : g45c92 (l.length : Int) (l.map ansc) = some (ascB lta l, l.map ansc) := by
 rw [g45c92_eq]
 have := scan_all (F := fun k i => g45c92L0 k (l.length : Int) i (l.map ansc)) (n := l.length) (fin := some (true, l.map ansc)) (bad := some (false, l.map ansc)) (prevB lta l) hl 1 (by omega)
  (fun k i h1 hi => by
   obtain ⟨j, rfl⟩ : ∃ j, i = j + 1 := ⟨i - 1, by omega⟩
   show g45c92L0 (k + 1) _ _ _ = _
   rw [g45c92L0_eq, if_pos (lss_t hi), dec_i (by omega), s92 l hi, Option.bind_some, inc_i hi hl, prev_at _ hi]
   cases lta l[j] l[j + 1] <;> rfl)
  (fun k i hi => by show g45c92L0 (k + 1) _ _ _ = _; rw [g45c92L0_eq, if_neg (lss_f hi)])
 rw [asc1] at this
 refine Eq.trans this ?_
 cases ascB lta l <;> rfl
theorem s71 (l : List Ans) (hl : l.length < 2 ^ 63) : g71 (l.map ansc) = some (l.all ansOk && ascB lta l) := by
 rw [g71_eq, s90c91 l hl, Option.bind_some, List.length_map, s45c92 l hl, Option.bind_some]
 cases l.all ansOk <;> rfl
def lte : Entry → Entry → Bool := fun a b => ltId a.node.id b.node.id
theorem s94 (x : Entry) (hx : x.node.path.length < 2 ^ 63) : g94 x.core x.slot x.node.id.core x.node.id.op x.node.id.part (idCells x.node.path) x.node.cap.kind x.node.cap.base x.node.cap.bits x.node.cap.rights x.node.cap.width x.node.cap.level x.node.cap.device = some (!entOk x) := by
 rw [g94_eq]
 simp only [s20, s39, s38 _ hx, Option.bind_some]
 repeat' split
 all_goals (refine congrArg some ?_; rw [bool_iff]; simp only [entOk, CQ] at * <;> grind)
theorem s100c94 (l : List Entry) (hl : l.length < 2 ^ 63) (hp : ∀ x ∈ l, x.node.path.length < 2 ^ 63) : ∃ r, g100c94 (l.map entryc) = some r ∧ cop .geq r 0 = !(l.all entOk) := by
 rw [g100c94_eq, List.length_map]
 have := scan_idx (F := fun k i => g100c94L0 k (l.map entryc) (l.length : Int) i) (n := l.length) (fun i => !atB entOk l i) hl
  (fun k i hi => by
   show g100c94L0 (k + 1) _ _ _ = _
   rw [g100c94L0_eq, if_pos (lss_t hi)]
   refine (elem_entries hi _).trans ?_
   simp only [entryV, d2, d4, d8, d16]
   rw [s94 l[i] (hp _ (List.getElem_mem hi)), Option.bind_some, inc_i hi hl, atB_at _ hi])
  (fun k i hi => by show g100c94L0 (k + 1) _ _ _ = _; rw [g100c94L0_eq, if_neg (lss_f hi)])
 rw [any_at] at this
 exact this
theorem s93c94 (l : List Entry) (hl : l.length < 2 ^ 63) (hp : ∀ x ∈ l, x.node.path.length < 2 ^ 63) : g93c94 (l.map entryc) = some (!(l.all entOk)) := by
 obtain ⟨r, h1, h2⟩ := s100c94 l hl hp
 rw [g93c94_eq, h1, Option.bind_some, h2]
theorem s95 (l : List Entry) {j : Nat} (hj : j + 1 < l.length) : g95 (j : Int) ((j + 1 : Nat) : Int) (l.map entryc) = some (lte l[j] l[j + 1], l.map entryc) := by
 rw [g95_eq]
 refine (elem_entries (show j < l.length by omega) _).trans ?_
 refine (elem_entries hj _).trans ?_
 simp only [entryV, d2, d4, d8, d16]
 rw [s86, Option.bind_some]; rfl
theorem s45c95 (l : List Entry) (hl : l.length < 2 ^ 63) : g45c95 (l.length : Int) (l.map entryc) = some (ascB lte l, l.map entryc) := by
 rw [g45c95_eq]
 have := scan_all (F := fun k i => g45c95L0 k (l.length : Int) i (l.map entryc)) (n := l.length) (fin := some (true, l.map entryc)) (bad := some (false, l.map entryc)) (prevB lte l) hl 1 (by omega)
  (fun k i h1 hi => by
   obtain ⟨j, rfl⟩ : ∃ j, i = j + 1 := ⟨i - 1, by omega⟩
   show g45c95L0 (k + 1) _ _ _ = _
   rw [g45c95L0_eq, if_pos (lss_t hi), dec_i (by omega), s95 l hi, Option.bind_some, inc_i hi hl, prev_at _ hi]
   cases lte l[j] l[j + 1] <;> rfl)
  (fun k i hi => by show g45c95L0 (k + 1) _ _ _ = _; rw [g45c95L0_eq, if_neg (lss_f hi)])
 rw [asc1] at this
 refine Eq.trans this ?_
 cases ascB lte l <;> rfl
theorem s72 (l : List Entry) (hl : l.length < 2 ^ 63) (hp : ∀ x ∈ l, x.node.path.length < 2 ^ 63) : g72 (l.map entryc) = some (l.all entOk && ascB lte l) := by
 rw [g72_eq, s93c94 l hl hp, Option.bind_some, List.length_map, s45c95 l hl, Option.bind_some]
 cases l.all entOk <;> rfl
theorem s73 (x : Id) : g73 x.core x.op x.part = some (!opOk x) := by
 rw [g73_eq, s34, Option.bind_some]
theorem s64c73 (l : List Id) (hl : l.length < 2 ^ 63) : ∃ r, g64c73 (idCells l) = some r ∧ cop .geq r 0 = !(l.all opOk) := by
 rw [g64c73_eq, ids_len]
 have := scan_idx (F := fun k i => g64c73L0 k (idCells l) (l.length : Int) i) (n := l.length) (fun i => !atB opOk l i) hl
  (fun k i hi => by
   show g64c73L0 (k + 1) _ _ _ = _
   rw [g64c73L0_eq, if_pos (lss_t hi)]
   refine (elem_ids hi _).trans ?_
   dsimp only
   rw [s73 l[i], Option.bind_some, inc_i hi hl, atB_at _ hi])
  (fun k i hi => by show g64c73L0 (k + 1) _ _ _ = _; rw [g64c73L0_eq, if_neg (lss_f hi)])
 rw [any_at] at this
 exact this
theorem s40c73 (l : List Id) (hl : l.length < 2 ^ 63) : g40c73 (idCells l) = some (!(l.all opOk)) := by
 obtain ⟨r, h1, h2⟩ := s64c73 l hl
 rw [g40c73_eq, h1, Option.bind_some, h2]
def stateOk (s : State) : Bool := slotsOk s.slots && (s.pending.all reqOk && ascB ltp s.pending) && (s.marks.all markOk && ascB ltm s.marks) && (s.answers.all ansOk && ascB lta s.answers) && (s.entries.all entOk && ascB lte s.entries) && s.commits.all opOk
structure State.Fits (s : State) : Prop where
 slots : s.slots.length < 2 ^ 63
 pending : s.pending.length < 2 ^ 63
 marks : s.marks.length < 2 ^ 63
 answers : s.answers.length < 2 ^ 63
 entries : s.entries.length < 2 ^ 63
 commits : s.commits.length < 2 ^ 63
 slot : ∀ x ∈ s.slots, x.node.path.length < 2 ^ 63
 req : ∀ x ∈ s.pending, x.src.path.length < 2 ^ 63
 entry : ∀ x ∈ s.entries, x.node.path.length < 2 ^ 63
theorem s49 (s : State) (h : s.Fits) : g49 (s.slots.map slotc) (s.pending.map reqc) (s.marks.map markc) (s.answers.map ansc) (s.entries.map entryc) (idCells s.commits) = some (stateOk s) := by
 rw [g49_eq, s68 _ h.slots h.slot, Option.bind_some, s69 _ h.pending h.req, Option.bind_some, s70 _ h.marks, Option.bind_some, s71 _ h.answers, Option.bind_some, s72 _ h.entries h.entry, Option.bind_some, s40c73 _ h.commits, Option.bind_some]
 unfold stateOk
 cases slotsOk s.slots <;> cases (s.pending.all reqOk && ascB ltp s.pending) <;> cases (s.marks.all markOk && ascB ltm s.marks) <;> cases (s.answers.all ansOk && ascB lta s.answers) <;> cases (s.entries.all entOk && ascB lte s.entries) <;> cases s.commits.all opOk <;> rfl
end Go.Proofs.Ytljejgmcgddppaa
end

section
namespace Go.Proofs.Ytljejgmcgddppaa
open Go Go.AM
set_option linter.unusedSimpArgs false
set_option linter.unusedVariables false
set_option maxRecDepth 100000
theorem le63 {n : Nat} (h : n ≤ maxLen) : n < 2 ^ 63 := by
 have : maxLen + 1 = 2 ^ 63 := by decide
 omega
def statec (s : State) : List AV := [.slice false 15 (s.slots.map slotc), .slice false 28 (s.pending.map reqc), .slice false 4 (s.marks.map markc), .slice false 2 (s.answers.map ansc), .slice false 13 (s.entries.map entryc), .slice false 3 (idCells s.commits)]
end Go.Proofs.Ytljejgmcgddppaa
end

section
namespace Go.Proofs.Ytljejgmcgddppaa
open Go Go.AM
set_option linter.unusedSimpArgs false
set_option linter.unusedVariables false
set_option maxRecDepth 100000
theorem ints_len (l : List Int) : (intCells l).length = l.length := by simp [intCells]
theorem ints_take (l : List Int) (n : Nat) : (intCells l).take n = intCells (l.take n) := by simp [intCells, List.map_take]
def numOk (z : Int) : Bool := decide (0 ≤ z ∧ z ≤ 1073741824)
def moveOk (m : Move) : Bool := regOk m.region && coreOk m.to
theorem s19 (z : Int) : g19 z = some (numOk z) := by
 rw [g19_eq]
 repeat' split
 all_goals (refine congrArg some ?_; rw [bool_iff]; simp only [numOk, CQ] at *; omega)
theorem s37 (x : Node) (hx : x.path.length < 2 ^ 63) : g37 x.id.core x.id.op x.id.part (idCells x.path) x.cap.kind x.cap.base x.cap.bits x.cap.rights x.cap.width x.cap.level x.cap.device = some (!nodeOk x) := by
 rw [g37_eq, s38 x hx, Option.bind_some]
theorem s62c37 (l : List Node) (hl : l.length < 2 ^ 63) (hp : ∀ x ∈ l, x.path.length < 2 ^ 63) : ∃ r, g62c37 (l.map nodec) = some r ∧ cop .geq r 0 = !(l.all nodeOk) := by
 rw [g62c37_eq, List.length_map]
 have := scan_idx (F := fun k i => g62c37L0 k (l.map nodec) (l.length : Int) i) (n := l.length) (fun i => !atB nodeOk l i) hl
  (fun k i hi => by
   show g62c37L0 (k + 1) _ _ _ = _
   rw [g62c37L0_eq, if_pos (lss_t hi)]
   refine (elem_nodes hi _).trans ?_
   simp only [nodeV, d2, d4, d8, d16]
   rw [s37 l[i] (hp _ (List.getElem_mem hi)), Option.bind_some, inc_i hi hl, atB_at _ hi])
  (fun k i hi => by show g62c37L0 (k + 1) _ _ _ = _; rw [g62c37L0_eq, if_neg (lss_f hi)])
 rw [any_at] at this
 exact this
theorem s36c37 (l : List Node) (hl : l.length < 2 ^ 63) (hp : ∀ x ∈ l, x.path.length < 2 ^ 63) : g36c37 (l.map nodec) = some (!(l.all nodeOk)) := by
 obtain ⟨r, h1, h2⟩ := s62c37 l hl hp
 rw [g36c37_eq, h1, Option.bind_some, h2]
theorem s41 (x : Id) : g41 x.core x.op x.part = some (!idOk x) := by
 rw [g41_eq, s42, Option.bind_some, id_eta]
theorem s64c41 (l : List Id) (hl : l.length < 2 ^ 63) : ∃ r, g64c41 (idCells l) = some r ∧ cop .geq r 0 = !(l.all idOk) := by
 rw [g64c41_eq, ids_len]
 have := scan_idx (F := fun k i => g64c41L0 k (idCells l) (l.length : Int) i) (n := l.length) (fun i => !atB idOk l i) hl
  (fun k i hi => by
   show g64c41L0 (k + 1) _ _ _ = _
   rw [g64c41L0_eq, if_pos (lss_t hi)]
   refine (elem_ids hi _).trans ?_
   dsimp only
   rw [s41 l[i], Option.bind_some, inc_i hi hl, atB_at _ hi])
  (fun k i hi => by show g64c41L0 (k + 1) _ _ _ = _; rw [g64c41L0_eq, if_neg (lss_f hi)])
 rw [any_at] at this
 exact this
theorem s40c41 (l : List Id) (hl : l.length < 2 ^ 63) : g40c41 (idCells l) = some (!(l.all idOk)) := by
 obtain ⟨r, h1, h2⟩ := s64c41 l hl
 rw [g40c41_eq, h1, Option.bind_some, h2]
theorem s44 (x : Int) : g44 x = some (!coreOk x) := by
 rw [g44_eq, s20, Option.bind_some]
theorem s65c44 (l : List Int) (hl : l.length < 2 ^ 63) : ∃ r, g65c44 (intCells l) = some r ∧ cop .geq r 0 = !(l.all coreOk) := by
 rw [g65c44_eq, ints_len]
 have := scan_idx (F := fun k i => g65c44L0 k (intCells l) (l.length : Int) i) (n := l.length) (fun i => !atB coreOk l i) hl
  (fun k i hi => by
   show g65c44L0 (k + 1) _ _ _ = _
   rw [g65c44L0_eq, if_pos (lss_t hi)]
   refine (elem_ints hi _).trans ?_
   skip
   rw [s44 l[i], Option.bind_some, inc_i hi hl, atB_at _ hi])
  (fun k i hi => by show g65c44L0 (k + 1) _ _ _ = _; rw [g65c44L0_eq, if_neg (lss_f hi)])
 rw [any_at] at this
 exact this
theorem s43c44 (l : List Int) (hl : l.length < 2 ^ 63) : g43c44 (intCells l) = some (!(l.all coreOk)) := by
 obtain ⟨r, h1, h2⟩ := s65c44 l hl
 rw [g43c44_eq, h1, Option.bind_some, h2]
theorem s67 (x : Int) : g67 x = some (!coreOk x) := by
 rw [g67_eq, s20, Option.bind_some]
theorem s65c67 (l : List Int) (hl : l.length < 2 ^ 63) : ∃ r, g65c67 (intCells l) = some r ∧ cop .geq r 0 = !(l.all coreOk) := by
 rw [g65c67_eq, ints_len]
 have := scan_idx (F := fun k i => g65c67L0 k (intCells l) (l.length : Int) i) (n := l.length) (fun i => !atB coreOk l i) hl
  (fun k i hi => by
   show g65c67L0 (k + 1) _ _ _ = _
   rw [g65c67L0_eq, if_pos (lss_t hi)]
   refine (elem_ints hi _).trans ?_
   skip
   rw [s67 l[i], Option.bind_some, inc_i hi hl, atB_at _ hi])
  (fun k i hi => by show g65c67L0 (k + 1) _ _ _ = _; rw [g65c67L0_eq, if_neg (lss_f hi)])
 rw [any_at] at this
 exact this
theorem s43c67 (l : List Int) (hl : l.length < 2 ^ 63) : g43c67 (intCells l) = some (!(l.all coreOk)) := by
 obtain ⟨r, h1, h2⟩ := s65c67 l hl
 rw [g43c67_eq, h1, Option.bind_some, h2]
theorem s51 (x : Move) : g51 x.region x.to = some (!moveOk x) := by
 rw [g51_eq, s32, s20, Option.bind_some, Option.bind_some]
 unfold moveOk
 cases regOk x.region <;> rfl
theorem s74c51 (l : List Move) (hl : l.length < 2 ^ 63) : ∃ r, g74c51 (l.map movec) = some r ∧ cop .geq r 0 = !(l.all moveOk) := by
 rw [g74c51_eq, List.length_map]
 have := scan_idx (F := fun k i => g74c51L0 k (l.map movec) (l.length : Int) i) (n := l.length) (fun i => !atB moveOk l i) hl
  (fun k i hi => by
   show g74c51L0 (k + 1) _ _ _ = _
   rw [g74c51L0_eq, if_pos (lss_t hi)]
   refine (elem_moves hi _).trans ?_
   dsimp only
   rw [s51 l[i], Option.bind_some, inc_i hi hl, atB_at _ hi])
  (fun k i hi => by show g74c51L0 (k + 1) _ _ _ = _; rw [g74c51L0_eq, if_neg (lss_f hi)])
 rw [any_at] at this
 exact this
theorem s50c51 (l : List Move) (hl : l.length < 2 ^ 63) : g50c51 (l.map movec) = some (!(l.all moveOk)) := by
 obtain ⟨r, h1, h2⟩ := s74c51 l hl
 rw [g50c51_eq, h1, Option.bind_some, h2]
def ltI (a b : Int) : Bool := decide (a < b)
def coresOk (l : List Int) : Bool := l.all coreOk && ascB ltI l
theorem s81 (l : List Int) (hl : l.length < 2 ^ 63) (a : Int) : ∃ r, g81 (intCells l) a = some r ∧ cop .geq r 0 = l.any (fun x => decide (a = x)) := by
 rw [g81_eq, ints_len]
 have := scan_idx (F := fun k i => g81L0 k (intCells l) a (l.length : Int) i) (n := l.length) (fun i => !atB (fun x => !decide (a = x)) l i) hl
  (fun k i hi => by
   show g81L0 (k + 1) _ _ _ _ = _
   rw [g81L0_eq, if_pos (lss_t hi)]
   refine (elem_ints hi _).trans ?_
   rw [inc_i hi hl, atB_at _ hi, Bool.not_not]
   rfl)
  (fun k i hi => by show g81L0 (k + 1) _ _ _ _ = _; rw [g81L0_eq, if_neg (lss_f hi)])
 rw [any_at] at this
 have e : (!(l.all fun x => !decide (a = x))) = l.any (fun x => decide (a = x)) := by
  rw [List.any_eq_not_all_not]
 rw [e] at this
 exact this
theorem s66 (l : List Int) (hl : l.length < 2 ^ 63) (a : Int) : g66 (intCells l) a = some (l.any (fun x => decide (a = x))) := by
 obtain ⟨r, h1, h2⟩ := s81 l hl a
 rw [g66_eq, h1, Option.bind_some, h2]
def newAt (l : List Int) (i : Nat) : Bool := match l[i]? with | some x => !((l.take i).any (fun y => decide (x = y))) | none => true
def viewOk (v : View) : Bool := numOk v.number && decide (v.members.length ≤ 32) && decide (v.owners.length ≤ 16) && (List.range' 0 v.members.length).all (fun i => atB coreOk v.members i && newAt v.members i) && v.owners.all coreOk
theorem new_at {l : List Int} {i : Nat} (hi : i < l.length) : newAt l i = !((l.take i).any (fun y => decide (l[i] = y))) := by
 unfold newAt; rw [List.getElem?_eq_getElem hi]
theorem s48 (v : View) (h1 : v.members.length < 2 ^ 63) (h2 : v.owners.length < 2 ^ 63) : g48 v.number (intCells v.members) (intCells v.owners) = some (viewOk v) := by
 rw [g48_eq, ints_len, ints_len, s19, Option.bind_some]
 have := scan_all (F := fun k i => g48L0 k v.number (intCells v.members) (intCells v.owners) (intCells v.members) (v.members.length : Int) i) (n := v.members.length) (fin := some (v.owners.all coreOk)) (bad := some false) (fun i => atB coreOk v.members i && newAt v.members i) h1 0 (by omega)
  (fun k i _ hi => by
   show g48L0 (k + 1) _ _ _ _ _ _ = _
   rw [g48L0_eq, if_pos (lss_t hi)]
   refine (elem_ints hi _).trans ?_
   rw [s20, Option.bind_some, reqK_pos (by omega), reqK_pos (by rw [ints_len]; omega), Int.toNat_natCast, ints_take, s66 _ (by rw [List.length_take]; omega), Option.bind_some, inc_i hi h1, atB_at _ hi, new_at hi]
   cases coreOk v.members[i] <;> cases (v.members.take i).any (fun y => decide (v.members[i] = y)) <;> rfl)
  (fun k i hi => by
   show g48L0 (k + 1) _ _ _ _ _ _ = _
   rw [g48L0_eq, if_neg (lss_f hi), s43c67 _ h2, Option.bind_some, Bool.not_not])
 rw [Nat.sub_zero] at this
 have this : g48L0 FUEL v.number (intCells v.members) (intCells v.owners) (intCells v.members) (v.members.length : Int) 0 = _ := this
 rw [this]
 unfold viewOk
 by_cases a1 : v.members.length ≤ 32
 ·by_cases a2 : v.owners.length ≤ 16
  ·rw [if_neg (show ¬ (cop .gtr (v.members.length : Int) 32) = true by simp only [CQ]; omega), if_neg (show ¬ (cop .gtr (v.owners.length : Int) 16) = true by simp only [CQ]; omega), decide_eq_true a1, decide_eq_true a2]
   cases numOk v.number <;> cases (List.range' 0 v.members.length).all (fun i => atB coreOk v.members i && newAt v.members i) <;> rfl
  ·rw [if_neg (show ¬ (cop .gtr (v.members.length : Int) 32) = true by simp only [CQ]; omega), if_pos (show (cop .gtr (v.owners.length : Int) 16) = true by simp only [CQ]; omega), decide_eq_false a2]
   cases numOk v.number <;> simp
 ·rw [if_pos (show (cop .gtr (v.members.length : Int) 32) = true by simp only [CQ]; omega), decide_eq_false a1]
  cases numOk v.number <;> simp
structure View.Fits (v : View) : Prop where
 members : v.members.length < 2 ^ 63
 owners : v.owners.length < 2 ^ 63
structure Report.Fits (r : Report) : Prop where
 view : r.view.Fits
 state : r.state.Fits
 next : r.next.Fits
 proposal : r.proposal.Fits
def repOk (r : Report) : Bool := coreOk r.core && viewOk r.view && stateOk r.state && viewOk r.next && stateOk r.proposal
theorem s47 (r : Report) (h : r.Fits) : g47 r.core r.view.number (intCells r.view.members) (intCells r.view.owners) (r.state.slots.map slotc) (r.state.pending.map reqc) (r.state.marks.map markc) (r.state.answers.map ansc) (r.state.entries.map entryc) (idCells r.state.commits) r.ready r.next.number (intCells r.next.members) (intCells r.next.owners) (r.proposal.slots.map slotc) (r.proposal.pending.map reqc) (r.proposal.marks.map markc) (r.proposal.answers.map ansc) (r.proposal.entries.map entryc) (idCells r.proposal.commits) = some (repOk r) := by
 rw [g47_eq, s20, Option.bind_some, s48 _ h.view.members h.view.owners, Option.bind_some, s49 _ h.state, Option.bind_some, s48 _ h.next.members h.next.owners, Option.bind_some, s49 _ h.proposal, Option.bind_some]
 unfold repOk
 cases coreOk r.core <;> cases viewOk r.view <;> cases stateOk r.state <;> cases viewOk r.next <;> cases stateOk r.proposal <;> rfl
end Go.Proofs.Ytljejgmcgddppaa
end

section
namespace Go.Proofs.Ytljejgmcgddppaa
open Go Go.AM
set_option linter.unusedSimpArgs false
set_option linter.unusedVariables false
set_option maxRecDepth 100000
structure Msg where
 kind : Int
 view : Int
 frm : Int
 to : Int
 round : Int
 region : Int
 slot : Int
 op : Id
 err : Int
 settled : Bool
 req : Req
 ids : List Id
 nodes : List Node
 cores : List Int
 moves : List Move
 base : Int
 next : View
 state : State
 report : Report
structure Msg.Fits (m : Msg) : Prop where
 req : m.req.src.path.length < 2 ^ 63
 ids : m.ids.length < 2 ^ 63
 nodes : m.nodes.length < 2 ^ 63
 node : ∀ x ∈ m.nodes, x.path.length < 2 ^ 63
 cores : m.cores.length < 2 ^ 63
 moves : m.moves.length < 2 ^ 63
 next : m.next.Fits
 state : m.state.Fits
 report : m.report.Fits
def msgT (m : Msg) : Qt2 := (m.kind, m.view, m.frm, m.to, m.round, m.region, m.slot, m.op.core, m.op.op, m.op.part, m.err, m.settled, m.req.id.core, m.req.id.op, m.req.id.part, m.req.call.kind, m.req.call.slot, m.req.call.dest, m.req.call.core, m.req.call.mask, m.req.call.object, m.req.call.bits, m.req.call.level, m.req.call.offset, m.req.call.count, m.req.call.index, m.req.call.addr, m.req.region, m.req.width, m.req.src.id.core, m.req.src.id.op, m.req.src.id.part, (idCells m.req.src.path), m.req.src.cap.kind, m.req.src.cap.base, m.req.src.cap.bits, m.req.src.cap.rights, m.req.src.cap.width, m.req.src.cap.level, m.req.src.cap.device, (idCells m.ids), (m.nodes.map nodec), (intCells m.cores), (m.moves.map movec), m.base, m.next.number, (intCells m.next.members), (intCells m.next.owners), (m.state.slots.map slotc), (m.state.pending.map reqc), (m.state.marks.map markc), (m.state.answers.map ansc), (m.state.entries.map entryc), (idCells m.state.commits), m.report.core, m.report.view.number, (intCells m.report.view.members), (intCells m.report.view.owners), (m.report.state.slots.map slotc), (m.report.state.pending.map reqc), (m.report.state.marks.map markc), (m.report.state.answers.map ansc), (m.report.state.entries.map entryc), (idCells m.report.state.commits), m.report.ready, m.report.next.number, (intCells m.report.next.members), (intCells m.report.next.owners), (m.report.proposal.slots.map slotc), (m.report.proposal.pending.map reqc), (m.report.proposal.marks.map markc), (m.report.proposal.answers.map ansc), (m.report.proposal.entries.map entryc), (idCells m.report.proposal.commits))
def noCall : Call := ⟨0, 0, 0, 0, 0, 0, 0, 0, 0, 0, 0, 0⟩
def noReq : Req := ⟨zid, noCall, 0, 0, noNode⟩
def noView : View := ⟨0, [], []⟩
def noState : State := ⟨[], [], [], [], [], []⟩
def noReport : Report := ⟨0, noView, noState, false, noView, noState⟩
def clr (m : Msg) : Nat → Msg
 | 0 => { m with region := 0 }
 | 1 => { m with req := noReq }
 | 2 => { m with op := zid }
 | 3 => { m with err := 0 }
 | 4 => { m with settled := false }
 | 5 => { m with nodes := [] }
 | 6 => { m with slot := 0 }
 | 7 => { m with ids := [] }
 | 8 => { m with round := 0 }
 | 9 => { m with cores := [] }
 | 10 => { m with report := noReport }
 | 11 => { m with base := 0 }
 | 12 => { m with next := noView }
 | 13 => { m with state := noState }
 | 14 => { m with moves := [] }
 | _ => m
theorem s22 (m : Msg) : ∀ f : Nat, f < 15 → g22 m.kind m.view m.frm m.to m.round m.region m.slot m.op.core m.op.op m.op.part m.err m.settled m.req.id.core m.req.id.op m.req.id.part m.req.call.kind m.req.call.slot m.req.call.dest m.req.call.core m.req.call.mask m.req.call.object m.req.call.bits m.req.call.level m.req.call.offset m.req.call.count m.req.call.index m.req.call.addr m.req.region m.req.width m.req.src.id.core m.req.src.id.op m.req.src.id.part (idCells m.req.src.path) m.req.src.cap.kind m.req.src.cap.base m.req.src.cap.bits m.req.src.cap.rights m.req.src.cap.width m.req.src.cap.level m.req.src.cap.device (idCells m.ids) (m.nodes.map nodec) (intCells m.cores) (m.moves.map movec) m.base m.next.number (intCells m.next.members) (intCells m.next.owners) (m.state.slots.map slotc) (m.state.pending.map reqc) (m.state.marks.map markc) (m.state.answers.map ansc) (m.state.entries.map entryc) (idCells m.state.commits) m.report.core m.report.view.number (intCells m.report.view.members) (intCells m.report.view.owners) (m.report.state.slots.map slotc) (m.report.state.pending.map reqc) (m.report.state.marks.map markc) (m.report.state.answers.map ansc) (m.report.state.entries.map entryc) (idCells m.report.state.commits) m.report.ready m.report.next.number (intCells m.report.next.members) (intCells m.report.next.owners) (m.report.proposal.slots.map slotc) (m.report.proposal.pending.map reqc) (m.report.proposal.marks.map markc) (m.report.proposal.answers.map ansc) (m.report.proposal.entries.map entryc) (idCells m.report.proposal.commits) (f : Int) = some (msgT (clr m f))
 | 0, _ => by rw [g22_eq]; rfl
 | 1, _ => by rw [g22_eq]; rfl
 | 2, _ => by rw [g22_eq]; rfl
 | 3, _ => by rw [g22_eq]; rfl
 | 4, _ => by rw [g22_eq]; rfl
 | 5, _ => by rw [g22_eq]; rfl
 | 6, _ => by rw [g22_eq]; rfl
 | 7, _ => by rw [g22_eq]; rfl
 | 8, _ => by rw [g22_eq]; rfl
 | 9, _ => by rw [g22_eq]; rfl
 | 10, _ => by rw [g22_eq]; rfl
 | 11, _ => by rw [g22_eq]; rfl
 | 12, _ => by rw [g22_eq]; rfl
 | 13, _ => by rw [g22_eq]; rfl
 | 14, _ => by rw [g22_eq]; rfl
theorem s46 (m : Msg) {j : Nat} (hj : j + 1 < m.cores.length) : g46 (j : Int) ((j + 1 : Nat) : Int) m.kind m.view m.frm m.to m.round m.region m.slot m.op.core m.op.op m.op.part m.err m.settled m.req.id.core m.req.id.op m.req.id.part m.req.call.kind m.req.call.slot m.req.call.dest m.req.call.core m.req.call.mask m.req.call.object m.req.call.bits m.req.call.level m.req.call.offset m.req.call.count m.req.call.index m.req.call.addr m.req.region m.req.width m.req.src.id.core m.req.src.id.op m.req.src.id.part (idCells m.req.src.path) m.req.src.cap.kind m.req.src.cap.base m.req.src.cap.bits m.req.src.cap.rights m.req.src.cap.width m.req.src.cap.level m.req.src.cap.device (idCells m.ids) (m.nodes.map nodec) (intCells m.cores) (m.moves.map movec) m.base m.next.number (intCells m.next.members) (intCells m.next.owners) (m.state.slots.map slotc) (m.state.pending.map reqc) (m.state.marks.map markc) (m.state.answers.map ansc) (m.state.entries.map entryc) (idCells m.state.commits) m.report.core m.report.view.number (intCells m.report.view.members) (intCells m.report.view.owners) (m.report.state.slots.map slotc) (m.report.state.pending.map reqc) (m.report.state.marks.map markc) (m.report.state.answers.map ansc) (m.report.state.entries.map entryc) (idCells m.report.state.commits) m.report.ready m.report.next.number (intCells m.report.next.members) (intCells m.report.next.owners) (m.report.proposal.slots.map slotc) (m.report.proposal.pending.map reqc) (m.report.proposal.marks.map markc) (m.report.proposal.answers.map ansc) (m.report.proposal.entries.map entryc) (idCells m.report.proposal.commits) = some (ltI m.cores[j] m.cores[j + 1], msgT m) := by
 rw [g46_eq]
 refine (elem_ints (show j < m.cores.length by omega) _).trans ?_
 refine (elem_ints hj _).trans ?_
 rfl
theorem s45c46 (m : Msg) (h : m.Fits) : g45c46 (m.cores.length : Int) m.kind m.view m.frm m.to m.round m.region m.slot m.op.core m.op.op m.op.part m.err m.settled m.req.id.core m.req.id.op m.req.id.part m.req.call.kind m.req.call.slot m.req.call.dest m.req.call.core m.req.call.mask m.req.call.object m.req.call.bits m.req.call.level m.req.call.offset m.req.call.count m.req.call.index m.req.call.addr m.req.region m.req.width m.req.src.id.core m.req.src.id.op m.req.src.id.part (idCells m.req.src.path) m.req.src.cap.kind m.req.src.cap.base m.req.src.cap.bits m.req.src.cap.rights m.req.src.cap.width m.req.src.cap.level m.req.src.cap.device (idCells m.ids) (m.nodes.map nodec) (intCells m.cores) (m.moves.map movec) m.base m.next.number (intCells m.next.members) (intCells m.next.owners) (m.state.slots.map slotc) (m.state.pending.map reqc) (m.state.marks.map markc) (m.state.answers.map ansc) (m.state.entries.map entryc) (idCells m.state.commits) m.report.core m.report.view.number (intCells m.report.view.members) (intCells m.report.view.owners) (m.report.state.slots.map slotc) (m.report.state.pending.map reqc) (m.report.state.marks.map markc) (m.report.state.answers.map ansc) (m.report.state.entries.map entryc) (idCells m.report.state.commits) m.report.ready m.report.next.number (intCells m.report.next.members) (intCells m.report.next.owners) (m.report.proposal.slots.map slotc) (m.report.proposal.pending.map reqc) (m.report.proposal.marks.map markc) (m.report.proposal.answers.map ansc) (m.report.proposal.entries.map entryc) (idCells m.report.proposal.commits) = some (ascB ltI m.cores, msgT m) := by
 rw [g45c46_eq]
 have := scan_all (F := fun k i => g45c46L0 k (m.cores.length : Int) i m.kind m.view m.frm m.to m.round m.region m.slot m.op.core m.op.op m.op.part m.err m.settled m.req.id.core m.req.id.op m.req.id.part m.req.call.kind m.req.call.slot m.req.call.dest m.req.call.core m.req.call.mask m.req.call.object m.req.call.bits m.req.call.level m.req.call.offset m.req.call.count m.req.call.index m.req.call.addr m.req.region m.req.width m.req.src.id.core m.req.src.id.op m.req.src.id.part (idCells m.req.src.path) m.req.src.cap.kind m.req.src.cap.base m.req.src.cap.bits m.req.src.cap.rights m.req.src.cap.width m.req.src.cap.level m.req.src.cap.device (idCells m.ids) (m.nodes.map nodec) (intCells m.cores) (m.moves.map movec) m.base m.next.number (intCells m.next.members) (intCells m.next.owners) (m.state.slots.map slotc) (m.state.pending.map reqc) (m.state.marks.map markc) (m.state.answers.map ansc) (m.state.entries.map entryc) (idCells m.state.commits) m.report.core m.report.view.number (intCells m.report.view.members) (intCells m.report.view.owners) (m.report.state.slots.map slotc) (m.report.state.pending.map reqc) (m.report.state.marks.map markc) (m.report.state.answers.map ansc) (m.report.state.entries.map entryc) (idCells m.report.state.commits) m.report.ready m.report.next.number (intCells m.report.next.members) (intCells m.report.next.owners) (m.report.proposal.slots.map slotc) (m.report.proposal.pending.map reqc) (m.report.proposal.marks.map markc) (m.report.proposal.answers.map ansc) (m.report.proposal.entries.map entryc) (idCells m.report.proposal.commits)) (n := m.cores.length) (fin := some (true, msgT m)) (bad := some (false, msgT m)) (prevB ltI m.cores) h.cores 1 (by omega)
  (fun k i h1 hi => by
   obtain ⟨j, rfl⟩ : ∃ j, i = j + 1 := ⟨i - 1, by omega⟩
   refine (g45c46L0_eq ..).trans ?_
   rw [if_pos (lss_t hi), dec_i (by have := h.cores; omega), s46 m hi, Option.bind_some, inc_i hi h.cores, prev_at _ hi]
   cases ltI m.cores[j] m.cores[j + 1] <;> rfl)
  (fun k i hi => by refine (g45c46L0_eq ..).trans ?_; rw [if_neg (lss_f hi)]; rfl)
 rw [asc1] at this
 refine Eq.trans this ?_
 cases ascB ltI m.cores <;> rfl
def fieldOk (m : Msg) : Nat → Bool
 | 0 => regOk m.region
 | 1 => reqOk m.req
 | 2 => opOk m.op
 | 3 => errOk m.err
 | 5 => decide (m.nodes.length ≤ 8) && (decide (m.kind ≠ 4) || decide (m.nodes.length = 1)) && m.nodes.all nodeOk
 | 6 => slotOk m.slot
 | 7 => decide (m.ids.length ≤ 64) && m.ids.all idOk
 | 8 => numOk m.round
 | 9 => coresOk m.cores
 | 10 => repOk m.report
 | 11 => numOk m.base
 | 12 => viewOk m.next
 | 13 => stateOk m.state
 | 14 => decide (m.moves.length ≤ 16) && m.moves.all moveOk
 | _ => true
theorem s21 (m : Msg) (h : m.Fits) : ∀ f : Nat, f < 15 → g21 m.kind m.view m.frm m.to m.round m.region m.slot m.op.core m.op.op m.op.part m.err m.settled m.req.id.core m.req.id.op m.req.id.part m.req.call.kind m.req.call.slot m.req.call.dest m.req.call.core m.req.call.mask m.req.call.object m.req.call.bits m.req.call.level m.req.call.offset m.req.call.count m.req.call.index m.req.call.addr m.req.region m.req.width m.req.src.id.core m.req.src.id.op m.req.src.id.part (idCells m.req.src.path) m.req.src.cap.kind m.req.src.cap.base m.req.src.cap.bits m.req.src.cap.rights m.req.src.cap.width m.req.src.cap.level m.req.src.cap.device (idCells m.ids) (m.nodes.map nodec) (intCells m.cores) (m.moves.map movec) m.base m.next.number (intCells m.next.members) (intCells m.next.owners) (m.state.slots.map slotc) (m.state.pending.map reqc) (m.state.marks.map markc) (m.state.answers.map ansc) (m.state.entries.map entryc) (idCells m.state.commits) m.report.core m.report.view.number (intCells m.report.view.members) (intCells m.report.view.owners) (m.report.state.slots.map slotc) (m.report.state.pending.map reqc) (m.report.state.marks.map markc) (m.report.state.answers.map ansc) (m.report.state.entries.map entryc) (idCells m.report.state.commits) m.report.ready m.report.next.number (intCells m.report.next.members) (intCells m.report.next.owners) (m.report.proposal.slots.map slotc) (m.report.proposal.pending.map reqc) (m.report.proposal.marks.map markc) (m.report.proposal.answers.map ansc) (m.report.proposal.entries.map entryc) (idCells m.report.proposal.commits) (f : Int) = some (fieldOk m f)
 | 0, _ => by
   refine (g21_eq ..).trans ?_
   exact (congrArg (fun x => Option.bind x some) (s32 _))
 | 1, _ => by
   refine (g21_eq ..).trans ?_
   exact (congrArg (fun x => Option.bind x some) (s33 _ h.req))
 | 2, _ => by
   refine (g21_eq ..).trans ?_
   exact (congrArg (fun x => Option.bind x some) (s34 _))
 | 3, _ => by
   refine (g21_eq ..).trans ?_
   exact (congrArg (fun x => Option.bind x some) (s35 _))
 | 4, _ => by
   refine (g21_eq ..).trans ?_
   rfl
 | 5, _ => by
   refine (g21_eq ..).trans ?_
   show (if (cop .gtr ((m.nodes.map nodec).length : Int) 8) = true then some false else if (cop .eql m.kind 4) = true then (if (cop .neq ((m.nodes.map nodec).length : Int) 1) = true then some false else (g36c37 (m.nodes.map nodec)).bind fun r => some (!r)) else (g36c37 (m.nodes.map nodec)).bind fun r => some (!r)) = _
   rw [List.length_map, s36c37 _ h.nodes h.node]
   repeat' split
   all_goals (refine congrArg some ?_; rw [bool_iff]; simp only [fieldOk, Bool.not_not, CQ] at * <;> grind)
 | 6, _ => by
   refine (g21_eq ..).trans ?_
   exact (congrArg (fun x => Option.bind x some) (s39 _))
 | 7, _ => by
   refine (g21_eq ..).trans ?_
   show (if (cop .leq ((idCells m.ids).length : Int) 64) = true then (g40c41 (idCells m.ids)).bind fun r => some (!r) else some false) = _
   rw [ids_len, s40c41 _ h.ids]
   repeat' split
   all_goals (refine congrArg some ?_; rw [bool_iff]; simp only [fieldOk, Bool.not_not, CQ] at * <;> grind)
 | 8, _ => by
   refine (g21_eq ..).trans ?_
   exact (congrArg (fun x => Option.bind x some) (s19 _))
 | 9, _ => by
   refine (g21_eq ..).trans ?_
   show ((g43c44 (intCells m.cores)).bind fun (r : Bool) => if (!r) = true then (g45c46 ((intCells m.cores).length : Int) m.kind m.view m.frm m.to m.round m.region m.slot m.op.core m.op.op m.op.part m.err m.settled m.req.id.core m.req.id.op m.req.id.part m.req.call.kind m.req.call.slot m.req.call.dest m.req.call.core m.req.call.mask m.req.call.object m.req.call.bits m.req.call.level m.req.call.offset m.req.call.count m.req.call.index m.req.call.addr m.req.region m.req.width m.req.src.id.core m.req.src.id.op m.req.src.id.part (idCells m.req.src.path) m.req.src.cap.kind m.req.src.cap.base m.req.src.cap.bits m.req.src.cap.rights m.req.src.cap.width m.req.src.cap.level m.req.src.cap.device (idCells m.ids) (m.nodes.map nodec) (intCells m.cores) (m.moves.map movec) m.base m.next.number (intCells m.next.members) (intCells m.next.owners) (m.state.slots.map slotc) (m.state.pending.map reqc) (m.state.marks.map markc) (m.state.answers.map ansc) (m.state.entries.map entryc) (idCells m.state.commits) m.report.core m.report.view.number (intCells m.report.view.members) (intCells m.report.view.owners) (m.report.state.slots.map slotc) (m.report.state.pending.map reqc) (m.report.state.marks.map markc) (m.report.state.answers.map ansc) (m.report.state.entries.map entryc) (idCells m.report.state.commits) m.report.ready m.report.next.number (intCells m.report.next.members) (intCells m.report.next.owners) (m.report.proposal.slots.map slotc) (m.report.proposal.pending.map reqc) (m.report.proposal.marks.map markc) (m.report.proposal.answers.map ansc) (m.report.proposal.entries.map entryc) (idCells m.report.proposal.commits)).bind fun r => some r.1 else some false) = _
   rw [s43c44 _ h.cores, ints_len, s45c46 m h, Option.bind_some, Option.bind_some]
   show _ = some (m.cores.all coreOk && ascB ltI m.cores)
   cases m.cores.all coreOk <;> rfl
 | 10, _ => by
   refine (g21_eq ..).trans ?_
   exact (congrArg (fun x => Option.bind x some) (s47 _ h.report))
 | 11, _ => by
   refine (g21_eq ..).trans ?_
   exact (congrArg (fun x => Option.bind x some) (s19 _))
 | 12, _ => by
   refine (g21_eq ..).trans ?_
   exact (congrArg (fun x => Option.bind x some) (s48 _ h.next.members h.next.owners))
 | 13, _ => by
   refine (g21_eq ..).trans ?_
   exact (congrArg (fun x => Option.bind x some) (s49 _ h.state))
 | 14, _ => by
   refine (g21_eq ..).trans ?_
   show (if (cop .leq ((m.moves.map movec).length : Int) 16) = true then (g50c51 (m.moves.map movec)).bind fun r => some (!r) else some false) = _
   rw [List.length_map, s50c51 _ h.moves]
   repeat' split
   all_goals (refine congrArg some ?_; rw [bool_iff]; simp only [fieldOk, Bool.not_not, CQ] at * <;> grind)
def zReq (r : Req) : Bool := decide (r.id = zid) && decide (r.call.kind = 0 ∧ r.call.slot = 0 ∧ r.call.dest = 0 ∧ r.call.core = 0 ∧ r.call.mask = 0 ∧ r.call.object = 0 ∧ r.call.bits = 0 ∧ r.call.level = 0 ∧ r.call.offset = 0 ∧ r.call.count = 0 ∧ r.call.index = 0 ∧ r.call.addr = 0) && decide (r.region = 0) && decide (r.width = 0) && sameN r.src noNode
def zView (v : View) : Bool := decide (v.number = 0) && decide (v.members.length = 0) && decide (v.owners.length = 0)
def zState (s : State) : Bool := decide (s.slots.length = 0) && decide (s.pending.length = 0) && decide (s.marks.length = 0) && decide (s.answers.length = 0) && decide (s.entries.length = 0) && decide (s.commits.length = 0)
def zReport (r : Report) : Bool := decide (r.core = 0) && zView r.view && zState r.state && !r.ready && zView r.next && zState r.proposal
theorem eql0 (n : Nat) : cop .eql (n : Int) 0 = decide (n = 0) := by rw [bool_iff]; simp only [CQ]; omega
theorem eqlz (z : Int) : cop .eql z 0 = decide (z = 0) := rfl
theorem s52 (r : Req) (h : r.src.path.length < 2 ^ 63) : g52 r.id.core r.id.op r.id.part r.call.kind r.call.slot r.call.dest r.call.core r.call.mask r.call.object r.call.bits r.call.level r.call.offset r.call.count r.call.index r.call.addr r.region r.width r.src.id.core r.src.id.op r.src.id.part (idCells r.src.path) r.src.cap.kind r.src.cap.base r.src.cap.bits r.src.cap.rights r.src.cap.width r.src.cap.level r.src.cap.device = some (zReq r) := by
 rw [g52_eq, s61z _ h, Option.bind_some]
 simp only [zid_eqb, id_eta]
 unfold zReq
 repeat' split
 all_goals (refine congrArg some ?_; rw [bool_iff]; simp only [CQ] at * <;> grind)
theorem s53 (v : View) : g53 v.number (intCells v.members) (intCells v.owners) = some (zView v) := by
 rw [g53_eq, ints_len, ints_len, eql0, eql0, eqlz]
 unfold zView
 cases decide (v.number = 0) <;> cases decide (v.members.length = 0) <;> rfl
theorem s54 (s : State) : g54 (s.slots.map slotc) (s.pending.map reqc) (s.marks.map markc) (s.answers.map ansc) (s.entries.map entryc) (idCells s.commits) = some (zState s) := by
 rw [g54_eq, List.length_map, List.length_map, List.length_map, List.length_map, List.length_map, ids_len, eql0, eql0, eql0, eql0, eql0, eql0]
 unfold zState
 cases decide (s.slots.length = 0) <;> cases decide (s.pending.length = 0) <;> cases decide (s.marks.length = 0) <;> cases decide (s.answers.length = 0) <;> cases decide (s.entries.length = 0) <;> rfl
theorem s55 (r : Report) : g55 r.core r.view.number (intCells r.view.members) (intCells r.view.owners) (r.state.slots.map slotc) (r.state.pending.map reqc) (r.state.marks.map markc) (r.state.answers.map ansc) (r.state.entries.map entryc) (idCells r.state.commits) r.ready r.next.number (intCells r.next.members) (intCells r.next.owners) (r.proposal.slots.map slotc) (r.proposal.pending.map reqc) (r.proposal.marks.map markc) (r.proposal.answers.map ansc) (r.proposal.entries.map entryc) (idCells r.proposal.commits) = some (zReport r) := by
 rw [g55_eq, s53, s54, s53, s54, eqlz, Option.bind_some, Option.bind_some, Option.bind_some, Option.bind_some]
 unfold zReport
 cases decide (r.core = 0) <;> cases zView r.view <;> cases zState r.state <;> cases r.ready <;> cases zView r.next <;> rfl
def zf (m : Msg) : Nat → Bool
 | 0 => decide (m.region = 0)
 | 1 => zReq m.req
 | 2 => decide (m.op = zid)
 | 3 => decide (m.err = 0)
 | 4 => !m.settled
 | 5 => decide (m.nodes.length = 0)
 | 6 => decide (m.slot = 0)
 | 7 => decide (m.ids.length = 0)
 | 8 => decide (m.round = 0)
 | 9 => decide (m.cores.length = 0)
 | 10 => zReport m.report
 | 11 => decide (m.base = 0)
 | 12 => zView m.next
 | 13 => zState m.state
 | 14 => decide (m.moves.length = 0)
 | _ => true
def zMsg (m : Msg) : Bool := (List.range 15).all (zf m)
theorem and_if (b : Bool) {y : Bool} {x : Option Bool} (h : x = some y) : (if b = true then x else some false) = some (b && y) := by cases b <;> simp [h]
theorem s23 (m : Msg) (h : m.req.src.path.length < 2 ^ 63) : g23 m.kind m.view m.frm m.to m.round m.region m.slot m.op.core m.op.op m.op.part m.err m.settled m.req.id.core m.req.id.op m.req.id.part m.req.call.kind m.req.call.slot m.req.call.dest m.req.call.core m.req.call.mask m.req.call.object m.req.call.bits m.req.call.level m.req.call.offset m.req.call.count m.req.call.index m.req.call.addr m.req.region m.req.width m.req.src.id.core m.req.src.id.op m.req.src.id.part (idCells m.req.src.path) m.req.src.cap.kind m.req.src.cap.base m.req.src.cap.bits m.req.src.cap.rights m.req.src.cap.width m.req.src.cap.level m.req.src.cap.device (idCells m.ids) (m.nodes.map nodec) (intCells m.cores) (m.moves.map movec) m.base m.next.number (intCells m.next.members) (intCells m.next.owners) (m.state.slots.map slotc) (m.state.pending.map reqc) (m.state.marks.map markc) (m.state.answers.map ansc) (m.state.entries.map entryc) (idCells m.state.commits) m.report.core m.report.view.number (intCells m.report.view.members) (intCells m.report.view.owners) (m.report.state.slots.map slotc) (m.report.state.pending.map reqc) (m.report.state.marks.map markc) (m.report.state.answers.map ansc) (m.report.state.entries.map entryc) (idCells m.report.state.commits) m.report.ready m.report.next.number (intCells m.report.next.members) (intCells m.report.next.owners) (m.report.proposal.slots.map slotc) (m.report.proposal.pending.map reqc) (m.report.proposal.marks.map markc) (m.report.proposal.answers.map ansc) (m.report.proposal.entries.map entryc) (idCells m.report.proposal.commits) = some (zMsg m) := by
 rw [g23_eq, s52 _ h, s53, s54, s55, ids_len, List.length_map, ints_len, List.length_map, eql0, eql0, eql0, eql0, eqlz m.round, eqlz m.region, eqlz m.slot, eqlz m.err, eqlz m.base]
 have e : ((cop .eql m.op.core 0) && ((cop .eql m.op.op 0) && ((cop .eql m.op.part 0) && true))) = decide (m.op = zid) := by
  rw [bool_iff, zid_eqb, id_eta, decide_eq_true_eq]
 rw [e]
 simp only [Option.bind_some]
 refine Eq.trans (and_if _ (and_if _ (and_if _ (and_if _ (and_if _ (and_if _ (and_if _ (and_if _ (and_if _ (and_if _ (and_if _ (and_if _ (and_if _ (and_if _ (rfl))))))))))))))) ?_
 refine congrArg some ?_
 show _ = (zf m 0 && (zf m 1 && (zf m 2 && (zf m 3 && (zf m 4 && (zf m 5 && (zf m 6 && (zf m 7 && (zf m 8 && (zf m 9 && (zf m 10 && (zf m 11 && (zf m 12 && (zf m 13 && (zf m 14 && true)))))))))))))))
 simp only [zf, Bool.and_true]
 ac_rfl
end Go.Proofs.Ytljejgmcgddppaa
end

section
namespace Go.Proofs.Ytljejgmcgddppaa
open Go Go.AM
set_option linter.unusedSimpArgs false
set_option linter.unusedVariables false
set_option maxRecDepth 100000
def kf : Nat → List Nat
 | 1 => [0, 1]
 | 2 => [0, 2, 3, 4, 5]
 | 3 => [0, 2]
 | 4 => [0, 2, 6, 5]
 | 5 => [0, 2, 3]
 | 6 => [0, 2, 7]
 | 7 => [0, 2]
 | 8 => [0, 2]
 | 9 => [0, 2]
 | 10 => [0, 2]
 | 11 => [0, 2]
 | 12 => [8, 9]
 | 13 => [8, 10]
 | 14 => [8, 11, 9, 12, 13]
 | 15 => [8]
 | 16 => [8]
 | 17 => [9, 14]
 | _ => []
def fc (l : List Nat) : List (List AV) := l.map fun f : Nat => [I (f : Int)]
theorem s18 : ∀ n : Nat, 1 ≤ n → n ≤ 17 → g18 (n : Int) = some (fc (kf n), true)
 | 1, _, _ => by rw [g18_eq]; rfl
 | 2, _, _ => by rw [g18_eq]; rfl
 | 3, _, _ => by rw [g18_eq]; rfl
 | 4, _, _ => by rw [g18_eq]; rfl
 | 5, _, _ => by rw [g18_eq]; rfl
 | 6, _, _ => by rw [g18_eq]; rfl
 | 7, _, _ => by rw [g18_eq]; rfl
 | 8, _, _ => by rw [g18_eq]; rfl
 | 9, _, _ => by rw [g18_eq]; rfl
 | 10, _, _ => by rw [g18_eq]; rfl
 | 11, _, _ => by rw [g18_eq]; rfl
 | 12, _, _ => by rw [g18_eq]; rfl
 | 13, _, _ => by rw [g18_eq]; rfl
 | 14, _, _ => by rw [g18_eq]; rfl
 | 15, _, _ => by rw [g18_eq]; rfl
 | 16, _, _ => by rw [g18_eq]; rfl
 | 17, _, _ => by rw [g18_eq]; rfl
 | n + 18, _, h => absurd h (by omega)
theorem s18n (k : Int) (h : ¬ (1 ≤ k ∧ k ≤ 17)) : g18 k = some (([] : List (List AV)), false) := by
 rw [g18_eq]
 rw [if_neg (show ¬ (cop .eql k 1) = true by simp only [CQ]; omega)]
 rw [if_neg (show ¬ (cop .eql k 2) = true by simp only [CQ]; omega)]
 rw [if_neg (show ¬ (cop .eql k 3) = true by simp only [CQ]; omega)]
 rw [if_neg (show ¬ (cop .eql k 7) = true by simp only [CQ]; omega)]
 rw [if_neg (show ¬ (cop .eql k 8) = true by simp only [CQ]; omega)]
 rw [if_neg (show ¬ (cop .eql k 9) = true by simp only [CQ]; omega)]
 rw [if_neg (show ¬ (cop .eql k 10) = true by simp only [CQ]; omega)]
 rw [if_neg (show ¬ (cop .eql k 11) = true by simp only [CQ]; omega)]
 rw [if_neg (show ¬ (cop .eql k 4) = true by simp only [CQ]; omega)]
 rw [if_neg (show ¬ (cop .eql k 5) = true by simp only [CQ]; omega)]
 rw [if_neg (show ¬ (cop .eql k 6) = true by simp only [CQ]; omega)]
 rw [if_neg (show ¬ (cop .eql k 12) = true by simp only [CQ]; omega)]
 rw [if_neg (show ¬ (cop .eql k 13) = true by simp only [CQ]; omega)]
 rw [if_neg (show ¬ (cop .eql k 14) = true by simp only [CQ]; omega)]
 rw [if_neg (show ¬ (cop .eql k 15) = true by simp only [CQ]; omega)]
 rw [if_neg (show ¬ (cop .eql k 16) = true by simp only [CQ]; omega)]
 rw [if_neg (show ¬ (cop .eql k 17) = true by simp only [CQ]; omega)]
theorem kf_lt (n : Nat) : ∀ f ∈ kf n, f < 15 := by
 intro f hf
 unfold kf at hf
 split at hf <;> simp at hf <;> omega
theorem elem_fc {γ : Type} {l : List Nat} {i : Nat} (h : i < l.length) (k : Int → Option γ) : elemK (fc l) (i : Int) [.int .i64] k = k (l[i] : Int) := elem_map (f := fun n : Nat => [I (n : Int)]) (sh := [.int .i64]) (v := fun n : Nat => (n : Int)) (fun _ => rfl) h k
theorem clr_path (r : Msg) (f : Nat) (h : r.req.src.path.length < 2 ^ 63) : (clr r f).req.src.path.length < 2 ^ 63 := by
 unfold clr
 split <;> first | exact h | (show ([] : List Id).length < 2 ^ 63; simp)
theorem l10 (m : Msg) (h : m.Fits) (L : List Nat) (hL : ∀ f ∈ L, f < 15) (hn : L.length < 2 ^ 63) : ∀ (j i fuel : Nat) (r : Msg), L.length = i + j → j < fuel → r.req.src.path.length < 2 ^ 63 →
  g10L0 fuel m.kind m.view m.frm m.to m.round m.region m.slot m.op.core m.op.op m.op.part m.err m.settled m.req.id.core m.req.id.op m.req.id.part m.req.call.kind m.req.call.slot m.req.call.dest m.req.call.core m.req.call.mask m.req.call.object m.req.call.bits m.req.call.level m.req.call.offset m.req.call.count m.req.call.index m.req.call.addr m.req.region m.req.width m.req.src.id.core m.req.src.id.op m.req.src.id.part (idCells m.req.src.path) m.req.src.cap.kind m.req.src.cap.base m.req.src.cap.bits m.req.src.cap.rights m.req.src.cap.width m.req.src.cap.level m.req.src.cap.device (idCells m.ids) (m.nodes.map nodec) (intCells m.cores) (m.moves.map movec) m.base m.next.number (intCells m.next.members) (intCells m.next.owners) (m.state.slots.map slotc) (m.state.pending.map reqc) (m.state.marks.map markc) (m.state.answers.map ansc) (m.state.entries.map entryc) (idCells m.state.commits) m.report.core m.report.view.number (intCells m.report.view.members) (intCells m.report.view.owners) (m.report.state.slots.map slotc) (m.report.state.pending.map reqc) (m.report.state.marks.map markc) (m.report.state.answers.map ansc) (m.report.state.entries.map entryc) (idCells m.report.state.commits) m.report.ready m.report.next.number (intCells m.report.next.members) (intCells m.report.next.owners) (m.report.proposal.slots.map slotc) (m.report.proposal.pending.map reqc) (m.report.proposal.marks.map markc) (m.report.proposal.answers.map ansc) (m.report.proposal.entries.map entryc) (idCells m.report.proposal.commits) r.kind r.view r.frm r.to r.round r.region r.slot r.op.core r.op.op r.op.part r.err r.settled r.req.id.core r.req.id.op r.req.id.part r.req.call.kind r.req.call.slot r.req.call.dest r.req.call.core r.req.call.mask r.req.call.object r.req.call.bits r.req.call.level r.req.call.offset r.req.call.count r.req.call.index r.req.call.addr r.req.region r.req.width r.req.src.id.core r.req.src.id.op r.req.src.id.part (idCells r.req.src.path) r.req.src.cap.kind r.req.src.cap.base r.req.src.cap.bits r.req.src.cap.rights r.req.src.cap.width r.req.src.cap.level r.req.src.cap.device (idCells r.ids) (r.nodes.map nodec) (intCells r.cores) (r.moves.map movec) r.base r.next.number (intCells r.next.members) (intCells r.next.owners) (r.state.slots.map slotc) (r.state.pending.map reqc) (r.state.marks.map markc) (r.state.answers.map ansc) (r.state.entries.map entryc) (idCells r.state.commits) r.report.core r.report.view.number (intCells r.report.view.members) (intCells r.report.view.owners) (r.report.state.slots.map slotc) (r.report.state.pending.map reqc) (r.report.state.marks.map markc) (r.report.state.answers.map ansc) (r.report.state.entries.map entryc) (idCells r.report.state.commits) r.report.ready r.report.next.number (intCells r.report.next.members) (intCells r.report.next.owners) (r.report.proposal.slots.map slotc) (r.report.proposal.pending.map reqc) (r.report.proposal.marks.map markc) (r.report.proposal.answers.map ansc) (r.report.proposal.entries.map entryc) (idCells r.report.proposal.commits) (fc L) (L.length : Int) (i : Int) = some ((L.drop i).all (fieldOk m) && zMsg ((L.drop i).foldl clr r)) := by
 intro j
 induction j with
 | zero =>
  intro i fuel r hij hf hr
  obtain ⟨f, rfl⟩ : ∃ f, fuel = f + 1 := ⟨fuel - 1, by omega⟩
  refine (g10L0_eq ..).trans ?_
  rw [if_neg (lss_f (by omega)), s23 r hr, Option.bind_some, List.drop_of_length_le (by omega)]
  rfl
 | succ j ih =>
  intro i fuel r hij hf hr
  obtain ⟨f, rfl⟩ : ∃ f, fuel = f + 1 := ⟨fuel - 1, by omega⟩
  have hi : i < L.length := by omega
  have hlt := hL _ (List.getElem_mem hi)
  refine (g10L0_eq ..).trans ?_
  rw [if_pos (lss_t hi)]
  refine (elem_fc hi _).trans ?_
  rw [s21 m h _ hlt, Option.bind_some, List.drop_eq_getElem_cons hi, List.all_cons, List.foldl_cons, inc_i hi hn]
  cases fieldOk m L[i] with
  | false => rfl
  | true =>
   rw [if_neg (by simp), s22 r _ hlt, Option.bind_some, Bool.true_and]
   exact ih (i + 1) f (clr r L[i]) (by omega) (by omega) (clr_path r _ hr)
def kindOk (k : Int) : Bool := decide (1 ≤ k ∧ k ≤ 17)
def headOk (m : Msg) : Bool := kindOk m.kind && numOk m.view && coreOk m.frm && coreOk m.to
def rest (n : Nat) (m : Msg) : Bool := (List.range 15).all (fun g => (kf n).contains g || zf m g)
def validB (m : Msg) : Bool := headOk m && ((kf m.kind.toNat).all (fieldOk m) && rest m.kind.toNat m)
theorem rest_eq (m : Msg) : ∀ n : Nat, 1 ≤ n → n ≤ 17 → zMsg ((kf n).foldl clr m) = rest n m
 | 1, _, _ => by kernel_rfl
 | 2, _, _ => by kernel_rfl
 | 3, _, _ => by kernel_rfl
 | 4, _, _ => by kernel_rfl
 | 5, _, _ => by kernel_rfl
 | 6, _, _ => by kernel_rfl
 | 7, _, _ => by kernel_rfl
 | 8, _, _ => by kernel_rfl
 | 9, _, _ => by kernel_rfl
 | 10, _, _ => by kernel_rfl
 | 11, _, _ => by kernel_rfl
 | 12, _, _ => by kernel_rfl
 | 13, _, _ => by kernel_rfl
 | 14, _, _ => by kernel_rfl
 | 15, _, _ => by kernel_rfl
 | 16, _, _ => by kernel_rfl
 | 17, _, _ => by kernel_rfl
 | n + 18, _, h => absurd h (by omega)
theorem s10 (m : Msg) (h : m.Fits) : g10 m.kind m.view m.frm m.to m.round m.region m.slot m.op.core m.op.op m.op.part m.err m.settled m.req.id.core m.req.id.op m.req.id.part m.req.call.kind m.req.call.slot m.req.call.dest m.req.call.core m.req.call.mask m.req.call.object m.req.call.bits m.req.call.level m.req.call.offset m.req.call.count m.req.call.index m.req.call.addr m.req.region m.req.width m.req.src.id.core m.req.src.id.op m.req.src.id.part (idCells m.req.src.path) m.req.src.cap.kind m.req.src.cap.base m.req.src.cap.bits m.req.src.cap.rights m.req.src.cap.width m.req.src.cap.level m.req.src.cap.device (idCells m.ids) (m.nodes.map nodec) (intCells m.cores) (m.moves.map movec) m.base m.next.number (intCells m.next.members) (intCells m.next.owners) (m.state.slots.map slotc) (m.state.pending.map reqc) (m.state.marks.map markc) (m.state.answers.map ansc) (m.state.entries.map entryc) (idCells m.state.commits) m.report.core m.report.view.number (intCells m.report.view.members) (intCells m.report.view.owners) (m.report.state.slots.map slotc) (m.report.state.pending.map reqc) (m.report.state.marks.map markc) (m.report.state.answers.map ansc) (m.report.state.entries.map entryc) (idCells m.report.state.commits) m.report.ready m.report.next.number (intCells m.report.next.members) (intCells m.report.next.owners) (m.report.proposal.slots.map slotc) (m.report.proposal.pending.map reqc) (m.report.proposal.marks.map markc) (m.report.proposal.answers.map ansc) (m.report.proposal.entries.map entryc) (idCells m.report.proposal.commits) = some (validB m) := by
 rw [g10_eq]
 unfold validB headOk
 by_cases hk : 1 ≤ m.kind ∧ m.kind ≤ 17
 ·obtain ⟨n, hn⟩ : ∃ n : Nat, m.kind = n := ⟨m.kind.toNat, by omega⟩
  have h1 : kindOk m.kind = true := decide_eq_true hk
  have e19 : g18 m.kind = some (fc (kf n), true) := by rw [hn]; exact s18 n (by omega) (by omega)
  rw [e19, Option.bind_some, s19, s20, s20, Option.bind_some, Option.bind_some, Option.bind_some, h1]
  have hlen : (fc (kf n)).length = (kf n).length := List.length_map _
  have hsz : (kf n).length < 2 ^ 63 := by
   have : (kf n).length ≤ 5 := by unfold kf; split <;> simp
   omega
  have e := l10 m h (kf n) (kf_lt n) hsz (kf n).length 0 FUEL m (by omega) (by have := fuel63 hsz; omega) h.req
  rw [List.drop_zero, rest_eq m n (by omega) (by omega)] at e
  have hk2 : m.kind.toNat = n := by omega
  rw [hk2]
  dsimp only
  rw [hlen]
  refine (if_neg (by simp)).trans ?_
  cases numOk m.view <;> cases coreOk m.frm <;> cases coreOk m.to <;> first | rfl | exact e
 ·have h1 : kindOk m.kind = false := decide_eq_false hk
  rw [s18n _ hk, Option.bind_some, h1]
  rfl
end Go.Proofs.Ytljejgmcgddppaa
end

section
namespace Go.Proofs.Ytljejgmcgddppaa
open Go Go.AM
set_option linter.unusedSimpArgs false
set_option linter.unusedVariables false
set_option maxRecDepth 100000
theorem eqlD (a b : Int) : cop .eql a b = decide (a = b) := rfl
def at2 {α : Type} (q : α → α → Bool) (l m : List α) (i : Nat) : Bool := match l[i]?, m[i]? with | some a, some b => q a b | _, _ => true
def sameL {α : Type} (q : α → α → Bool) (l m : List α) : Bool := decide (l.length = m.length) && (List.range' 0 l.length).all (at2 q l m)
theorem at2_at {α : Type} (q : α → α → Bool) {l m : List α} {i : Nat} (h : i < l.length) (h' : i < m.length) : at2 q l m i = q l[i] m[i] := by
 unfold at2
 rw [List.getElem?_eq_getElem h, List.getElem?_eq_getElem h']
def sameMk : Mark → Mark → Bool := fun a b => decide (a.region = b.region ∧ a.op.core = b.op.core ∧ a.op.op = b.op.op ∧ a.op.part = b.op.part)
theorem s6 (l m : List Mark) (hl : l.length < 2 ^ 63) : g6 (l.map markc) (m.map markc) = some (sameL sameMk l m) := by
 rw [g6_eq, List.length_map, List.length_map]
 unfold sameL
 by_cases h : l.length = m.length
 ·rw [if_neg (show ¬ (cop .neq (l.length : Int) (m.length : Int)) = true by simp only [CQ]; omega), decide_eq_true h, Bool.true_and]
  have := scan_all (F := fun k i => g6L0 k (l.map markc) (m.map markc) i) (n := l.length) (fin := some true) (bad := some false) (at2 sameMk l m) hl 0 (by omega)
   (fun k i _ hi => by
    have hi' : i < m.length := by omega
    refine (g6L0_eq ..).trans ?_
    rw [List.length_map, if_pos (lss_t hi)]
    refine (elem_marks hi _).trans ?_
    refine (elem_marks hi' _).trans ?_
    rw [inc_i hi hl, at2_at _ hi hi']
    generalize g6L0 k (l.map markc) (m.map markc) ((i + 1 : Nat) : Int) = X
    try simp only [elem_marks hi, elem_marks hi', d2, d4, d8, d16, Option.bind_some]
    generalize l[i] = a
    generalize m[i] = b
    unfold sameMk
    repeat' split
    all_goals (simp only [eqlD, CQ] at * <;> grind))
   (fun k i hi => by refine (g6L0_eq ..).trans ?_; rw [List.length_map, if_neg (lss_f hi)])
  rw [Nat.sub_zero] at this
  refine Eq.trans this ?_
  cases (List.range' 0 l.length).all (at2 sameMk l m) <;> rfl
 ·rw [if_pos (show (cop .neq (l.length : Int) (m.length : Int)) = true by simp only [CQ]; omega), decide_eq_false h]
  rfl
theorem sameL_refl {α : Type} (q : α → α → Bool) (hq : ∀ a, q a a = true) (l : List α) : sameL q l l = true := by
 unfold sameL
 rw [decide_eq_true rfl, Bool.true_and, List.all_eq_true]
 intro i hi
 have hi' : i < l.length := by simpa [List.mem_range'] using hi
 rw [at2_at q hi' hi', hq]
end Go.Proofs.Ytljejgmcgddppaa
end

section
namespace Go.Proofs.Ytljejgmcgddppaa
open Go Go.AM
set_option linter.unusedSimpArgs false
set_option linter.unusedVariables false
set_option maxRecDepth 100000
theorem room_small {a b : LL} {k : Nat} (h : a.length + b.length ≤ 4096) (hk : k ≤ 10000) : roomP a b k := by
 unfold roomP roomMax
 have : (a.length + b.length) * (k + 1) ≤ 4096 * 10001 := Nat.mul_le_mul h (by omega)
 omega
theorem s31 (l : List Id) (h : l.length ≤ 64) : g31 (idCells l) = some (idCells l) := by
 rw [g31_eq]
 refine nilK_of (fun hn => ?_) ?_
 ·rw [if_pos rfl, hn]
 ·rw [if_neg Bool.false_ne_true]
  exact reqK_pos (room_small (by rw [ids_len]; simp; omega) (by omega)) _
theorem s17 (n : Node) (h : n.path.length ≤ 64) : g17 n.id.core n.id.op n.id.part (idCells n.path) n.cap.kind n.cap.base n.cap.bits n.cap.rights n.cap.width n.cap.level n.cap.device = some (nodeV n) := by
 rw [g17_eq, s31 _ h]; rfl
def viewc (v : View) : List AV := [I v.number, .slice false 1 (intCells v.members), .slice false 1 (intCells v.owners)]
def reportc (r : Report) : List AV := [I r.core] ++ viewc r.view ++ statec r.state ++ [B r.ready] ++ viewc r.next ++ statec r.proposal
def msgc (m : Msg) : List AV := [I m.kind, I m.view, I m.frm, I m.to, I m.round, I m.region, I m.slot, I m.op.core, I m.op.op, I m.op.part, I m.err, B m.settled] ++ reqc m.req ++ [.slice false 3 (idCells m.ids), .slice false 11 (m.nodes.map nodec), .slice false 1 (intCells m.cores), .slice false 2 (m.moves.map movec), I m.base] ++ viewc m.next ++ statec m.state ++ reportc m.report
structure FewS (l : List Slot) : Prop where
 len : l.length ≤ 70
 path : ∀ s ∈ l, s.node.path.length ≤ 20
end Go.Proofs.Ytljejgmcgddppaa
end

section
namespace Go.Proofs.Ytljejgmcgddppaa
open Go Go.AM
set_option linter.unusedSimpArgs false
set_option linter.unusedVariables false
set_option maxRecDepth 100000
theorem set_cells {α : Type} (f : α → List AV) (g : α → α) (l : List α) (i o : Nat) (c : List AV) (h : ∀ x, l[i]? = some x → setCells (f x) o c = f (g x)) : setElem (l.map f) i o c = (l.modify i g).map f := by
 unfold setElem
 refine List.ext_getElem? fun j => ?_
 rw [List.getElem?_modify, List.getElem?_map, List.getElem?_map, List.getElem?_modify]
 cases hj : l[j]? with
 | none => rfl
 | some x =>
  by_cases hij : i = j
  ·subst hij
   simp [h x hj]
  ·simp [hij]
theorem modify_id {α : Type} (l : List α) (i : Nat) : l.modify i (fun x => x) = l := by
 refine List.ext_getElem? fun j => ?_
 rw [List.getElem?_modify]
 cases l[j]? <;> simp
theorem set_same {α : Type} (f : α → List AV) (l : List α) (i o : Nat) (c : List AV) (h : ∀ x, l[i]? = some x → setCells (f x) o c = f x) : setElem (l.map f) i o c = l.map f := by
 rw [set_cells f (fun x => x) l i o c h, modify_id]
theorem nat_lt {i n : Nat} (h : i < n) : ((i : Int) < (n : Int)) := by omega
theorem s16 (l : List Slot) (h : FewS l) : g16 (l.map slotc) = some (l.map slotc) := by
 rw [g16_eq]
 refine nilK_of (fun hn => ?_) ?_
 ·rw [if_pos rfl, hn]
 ·rw [if_neg Bool.false_ne_true]
  refine reqK_pos (room_small (by have := h.len; simp; omega) (by omega)) _
theorem s8 (l : List Slot) (h : FewS l) : g8 (l.map slotc) = some (l.map slotc) := by
 rw [g8_eq, s16 l h, Option.bind_some, List.length_map]
 have hn : l.length < 2 ^ 63 := by have := h.len; omega
 have := scan_all (F := fun k i => g8L0 k (l.map slotc) (l.length : Int) i) (n := l.length) (fin := some (l.map slotc)) (bad := none) (fun _ => true) hn 0 (by omega)
  (fun k i _ hi => by
   show g8L0 (k + 1) _ _ _ = _
   rw [g8L0_eq, if_pos (lss_t hi), List.length_map]
   have hin := nat_lt hi
   refine (reqK_pos (by omega) _).trans ?_
   refine (reqK_pos hin _).trans ?_
   refine (elem_slots hi _).trans ?_
   simp only [slotV, d2, d4, d8, d16]
   have hp := h.path l[i] (List.getElem_mem hi)
   rw [s17 l[i].node (by omega), Option.bind_some]
   refine (reqK_pos (by omega) _).trans ?_
   refine (reqK_pos hin _).trans ?_
   refine (reqK_pos (by omega) _).trans ?_
   refine (reqK_pos hin _).trans ?_
   rw [inc_i hi hn]
   refine Eq.trans ?_ (if_pos trivial).symm
   refine congrArg (fun x => g8L0 k x (l.length : Int) ((i + 1 : Nat) : Int)) ?_
   refine set_same slotc l _ 0 (nodec l[i].node) fun x hx => ?_
   have hx' : l[i] = x := by
    rw [Int.toNat_natCast, List.getElem?_eq_getElem hi] at hx
    exact Option.some.inj hx
   rw [hx']
   rfl)
  (fun k i hi => by show g8L0 (k + 1) _ _ _ = _; rw [g8L0_eq, if_neg (lss_f hi)])
 refine this.trans ?_
 rw [if_pos (by simp)]
def busyS (s : Slot) : Bool := if (cop .neq s.op 0) = true then true else !((cop .eql s.lock.core 0) && ((cop .eql s.lock.op 0) && ((cop .eql s.lock.part 0) && true)))
theorem s24 (s : Slot) : g24 s.node.id.core s.node.id.op s.node.id.part (idCells s.node.path) s.node.cap.kind s.node.cap.base s.node.cap.bits s.node.cap.rights s.node.cap.width s.node.cap.level s.node.cap.device s.op s.lock.core s.lock.op s.lock.part = some (busyS s) := by
 rw [g24_eq, busyS]
 split <;> rfl
theorem elem_slot_at {γ : Type} {l : List Slot} {v : Int} (h0 : 0 ≤ v) (h : v.toNat < l.length) (k : ShsT slotSh → Option γ) : elemK (l.map slotc) v slotSh k = k (slotV l[v.toNat]) := by
 have e : v = ((v.toNat : Nat) : Int) := by omega
 have := elem_slots h k
 rwa [← e] at this
end Go.Proofs.Ytljejgmcgddppaa
end

section
namespace Go.Proofs.Ytljejgmcgddppaa
open Go Go.AM
set_option linter.unusedSimpArgs false
set_option linter.unusedVariables false
set_option maxRecDepth 100000
theorem scan_stop {γ : Type} {F : Nat → Int → Option γ} {n : Nat} (hit : Nat → γ) (p : Nat → Bool) (hn : n < 2 ^ 63)
  (step : ∀ k i : Nat, i < n → F (k + 1) (i : Int) = if p i = true then some (hit i) else F k ((i + 1 : Nat) : Int))
  (last : ∀ k : Nat, F (k + 1) (n : Int) = some (hit n)) (m : Nat) (hm : m ≤ n) (h1 : ∀ j, j < m → p j = false) (h2 : m < n → p m = true) : F FUEL 0 = some (hit m) := by
 have key : ∀ (j i fuel : Nat), i + j = m → n - i < fuel → F fuel (i : Int) = some (hit m) := by
  intro j
  induction j with
  | zero =>
   intro i fuel h hf
   obtain ⟨q, rfl⟩ : ∃ q, fuel = q + 1 := ⟨fuel - 1, by omega⟩
   have : i = m := by omega
   subst this
   by_cases hi : i < n
   ·rw [step q i hi, if_pos (h2 hi)]
   ·have : i = n := by omega
    subst this
    exact last q
  | succ j ih =>
   intro i fuel h hf
   obtain ⟨q, rfl⟩ : ∃ q, fuel = q + 1 := ⟨fuel - 1, by omega⟩
   rw [step q i (by omega), if_neg (by rw [h1 i (by omega)]; exact Bool.false_ne_true)]
   exact ih (i + 1) q (by omega) (by omega)
 exact key m 0 FUEL (by omega) (by have := fuel63 hn; omega)
def fst' {α : Type} (q : α → Bool) : List α → Nat
 | [] => 0
 | a :: r => match q a with | true => 0 | false => fst' q r + 1
theorem fst_le {α : Type} (q : α → Bool) : ∀ (l : List α), fst' q l ≤ l.length
 | [] => Nat.le_refl _
 | a :: r => by
  unfold fst'
  have := fst_le q r
  split <;> simp only [List.length_cons] <;> omega
theorem fst_lt {α : Type} (q : α → Bool) : ∀ (l : List α) (j : Nat) (hj : j < l.length), j < fst' q l → q l[j] = false
 | [], j, hj, _ => by simp at hj
 | a :: r, j, hj, h => by
  unfold fst' at h
  split at h
  ·omega
  ·rename_i ha
   cases j with
   | zero => exact ha
   | succ j => exact fst_lt q r j (by simpa using hj) (by omega)
theorem fst_at {α : Type} (q : α → Bool) : ∀ (l : List α) (h : fst' q l < l.length), q l[fst' q l] = true
 | [], h => by simp at h
 | a :: r, h => by
  cases ha : q a with
  | true =>
   have e : fst' q (a :: r) = 0 := by unfold fst'; rw [ha]
   simp only [e]
   exact ha
  | false =>
   have e : fst' q (a :: r) = fst' q r + 1 := by rw [fst']; rw [ha]
   have h' : fst' q r < r.length := by rw [e] at h; simpa using h
   have := fst_at q r h'
   simp only [e]
   exact this
def hitZ (n m : Nat) : Int := if m < n then (m : Int) else -1
theorem hitZ_lt {n m : Nat} (h : m < n) : hitZ n m = (m : Int) := if_pos h
def before (r q : Req) : Bool := ltId r.id q.id
end Go.Proofs.Ytljejgmcgddppaa
end

section
namespace Go.Proofs.Ytljejgmcgddppaa
open Go Go.AM
set_option linter.unusedSimpArgs false
set_option linter.unusedVariables false
set_option maxRecDepth 100000
theorem loop_to {σ γ : Type} {F : Nat → σ → Int → Option γ} {n : Nat} (S : Nat → σ) {fin : Option γ} (hn : n < 2 ^ 63)
  (step : ∀ k i : Nat, i < n → F (k + 1) (S i) (i : Int) = F k (S (i + 1)) ((i + 1 : Nat) : Int)) (last : ∀ k : Nat, F (k + 1) (S n) (n : Int) = fin) : F FUEL (S 0) 0 = fin := by
 have key : ∀ (j i fuel : Nat), i + j = n → j < fuel → F fuel (S i) (i : Int) = fin := by
  intro j
  induction j with
  | zero =>
   intro i fuel h hf
   obtain ⟨q, rfl⟩ : ∃ q, fuel = q + 1 := ⟨fuel - 1, by omega⟩
   have : i = n := by omega
   subst this
   exact last q
  | succ j ih =>
   intro i fuel h hf
   obtain ⟨q, rfl⟩ : ∃ q, fuel = q + 1 := ⟨fuel - 1, by omega⟩
   rw [step q i (by omega)]
   exact ih (i + 1) q (by omega) (by omega)
 exact key n 0 FUEL (by omega) (by have := fuel63 hn; omega)
def upto {α : Type} (f : α → α) (l : List α) (i : Nat) : List α := (l.take i).map f ++ l.drop i
theorem upto_len {α : Type} (f : α → α) (l : List α) (i : Nat) : (upto f l i).length = l.length := by simp [upto]; omega
theorem upto_zero {α : Type} (f : α → α) (l : List α) : upto f l 0 = l := by simp [upto]
theorem upto_all {α : Type} (f : α → α) (l : List α) : upto f l l.length = l.map f := by simp [upto]
theorem upto_get {α : Type} (f : α → α) (l : List α) (i j : Nat) : (upto f l i)[j]? = (l[j]?).map (if j < i then f else id) := by
 unfold upto
 by_cases h : j < i
 ·by_cases hj : j < l.length
  ·rw [List.getElem?_append_left (by simp; omega), if_pos h]
   simp [List.getElem?_take, h]
  ·rw [List.getElem?_eq_none (by simp; omega), List.getElem?_eq_none (by omega)]; rfl
 ·rw [if_neg h]
  by_cases hi : i ≤ l.length
  ·rw [List.getElem?_append_right (by simp; omega), List.getElem?_drop]
   simp
   congr 1; omega
  ·rw [List.getElem?_eq_none (by simp; omega), List.getElem?_eq_none (by omega)]; rfl
theorem upto_mod {α : Type} (f : α → α) (l : List α) (i : Nat) : (upto f l i).modify i f = upto f l (i + 1) := by
 refine List.ext_getElem? fun j => ?_
 rw [List.getElem?_modify, upto_get, upto_get]
 cases l[j]? with
 | none => rfl
 | some x =>
  by_cases hij : i = j
  ·subst hij; simp
  ·have : (j < i + 1) ↔ (j < i) := by omega
   simp [hij, this]
theorem upto_at {α : Type} (f : α → α) (l : List α) {i : Nat} (hi : i < l.length) : (upto f l i)[i]'(by rw [upto_len]; exact hi) = l[i] := by
 have h := upto_get f l i i
 rw [List.getElem?_eq_getElem (by rw [upto_len]; exact hi), List.getElem?_eq_getElem hi] at h
 simpa using h
theorem upto_same {α : Type} (f : α → α) (l : List α) {i : Nat} (hi : i < l.length) (h : f l[i] = l[i]) : upto f l (i + 1) = upto f l i := by
 refine List.ext_getElem? fun j => ?_
 rw [upto_get, upto_get]
 by_cases hij : j = i
 ·subst hij
  rw [List.getElem?_eq_getElem hi]; simp [h]
 ·have : (j < i + 1) ↔ (j < i) := by omega
  simp only [this]
theorem elem_upto {γ : Type} (f : Slot → Slot) (l : List Slot) {i : Nat} (hi : i < l.length) (k : ShsT slotSh → Option γ) : elemK ((upto f l i).map slotc) (i : Int) slotSh k = k (slotV l[i]) := by
 have h : i < (upto f l i).length := by rw [upto_len]; exact hi
 rw [elem_slots h, upto_at f l hi]
def emptyS (s : Slot) : Bool := decide (s.node.id = zid)
theorem empty_dec (s : Slot) : ((cop .eql s.node.id.core 0) && ((cop .eql s.node.id.op 0) && ((cop .eql s.node.id.part 0) && true))) = emptyS s := by
 rw [bool_iff, zid_eqb]
 unfold emptyS
 rw [decide_eq_true_eq]
theorem s25 (s : Slot) : g25 s.node.id.core s.node.id.op s.node.id.part (idCells s.node.path) s.node.cap.kind s.node.cap.base s.node.cap.bits s.node.cap.rights s.node.cap.width s.node.cap.level s.node.cap.device s.op s.lock.core s.lock.op s.lock.part = some (emptyS s) := by rw [g25_eq, empty_dec]
def lockS (ids : List Id) (by_ : Id) (s : Slot) : Slot := if emptyS s = false ∧ ids.contains s.node.id = true then { s with lock := by_ } else s
theorem lock_no {ids : List Id} {b : Id} {s : Slot} (h : ¬ (emptyS s = false ∧ ids.contains s.node.id = true)) : lockS ids b s = s := if_neg h
theorem set_lock (ids : List Id) (b : Id) (l : List Slot) {i : Nat} (hi : i < l.length) (h : emptyS l[i] = false ∧ ids.contains l[i].node.id = true) : setElem ((upto (lockS ids b) l i).map slotc) i 12 [I b.core, I b.op, I b.part] = (upto (lockS ids b) l (i + 1)).map slotc := by
 rw [← upto_mod]
 refine set_cells slotc _ _ i 12 _ fun x hx => ?_
 rw [upto_get, List.getElem?_eq_getElem hi] at hx
 simp at hx
 subst hx
 unfold lockS
 rw [if_pos h]
 rfl
theorem l13 (ids : List Id) (hi : ids.length < 2 ^ 63) (b : Id) (l : List Slot) (hn : l.length < 2 ^ 63) : g13L0 FUEL (idCells ids) b.core b.op b.part (l.map slotc) (l.length : Int) 0 = some ((l.map (lockS ids b)).map slotc) := by
 have := loop_to (F := fun k x i => g13L0 k (idCells ids) b.core b.op b.part x (l.length : Int) i) (n := l.length) (fun i => (upto (lockS ids b) l i).map slotc) (fin := some ((l.map (lockS ids b)).map slotc)) hn
  (fun k i hil => by
   show g13L0 (k + 1) _ _ _ _ _ _ _ = _
   have hul : ((upto (lockS ids b) l i).map slotc).length = l.length := by rw [List.length_map, upto_len]
   rw [g13L0_eq, if_pos (lss_t hil), hul]
   refine (reqK_pos (by omega) _).trans ?_
   refine (reqK_pos (by omega) _).trans ?_
   refine (elem_upto _ l hil _).trans ?_
   simp only [slotV, d2, d4, d8, d16]
   rw [s25, Option.bind_some, inc_i hil hn]
   refine ite_goal (fun h1 => ?_) fun h1 => ?_
   ·refine (reqK_pos (by omega) _).trans ?_
    refine (reqK_pos (by omega) _).trans ?_
    refine (elem_upto _ l hil _).trans ?_
    simp only [slotV, d2, d4, d8, d16]
    rw [s29 ids hi, Option.bind_some]
    refine ite_goal (fun h2 => ?_) fun h2 => ?_
    ·refine (reqK_pos (by omega) _).trans ?_
     refine (reqK_pos (by omega) _).trans ?_
     refine (reqK_pos (by omega) _).trans ?_
     refine (reqK_pos (by omega) _).trans ?_
     rw [Int.toNat_natCast, set_lock ids b l hil ⟨by simpa using h1, h2⟩]
    ·rw [upto_same (lockS ids b) l hil (lock_no fun h => h2 h.2)]
   ·rw [upto_same (lockS ids b) l hil (lock_no fun h => h1 (by simp [h.1]))])
  (fun k => by
   show g13L0 (k + 1) _ _ _ _ _ _ _ = _
   rw [g13L0_eq, if_neg (lss_f (Nat.le_refl _)), upto_all])
 simp only [upto_zero] at this
 exact this
theorem s13 (l : List Slot) (h : FewS l) (ids : List Id) (hi : ids.length < 2 ^ 63) (b : Id) : g13 (l.map slotc) (idCells ids) b.core b.op b.part = some ((l.map (lockS ids b)).map slotc) := by
 have hn : l.length < 2 ^ 63 := by have := h.len; omega
 rw [g13_eq, s8 l h, Option.bind_some, List.length_map]
 exact l13 ids hi b l hn
def swept (b : Id) (s : Slot) : Bool := !emptyS s && decide (s.lock = b)
def sweepS (b : Id) (s : Slot) : Slot := if swept b s = true then { s with node := noNode, lock := zid } else s
def sweepL (b : Id) (l : List Slot) : List Slot := if b = zid then l else l.map (sweepS b)
def sweepI (b : Id) (l : List Slot) : List Id := if b = zid then [] else (l.filter (swept b)).map (·.node.id)
def nodeZ : List AV := [I 0, I 0, I 0, AV.slice false 3 ([] : LL), I 0, I 0, I 0, I 0, I 0, I 0, AV.val (.bool false)]
theorem lock_dec (s : Slot) (b : Id) : ((cop .eql s.lock.core b.core) && ((cop .eql s.lock.op b.op) && ((cop .eql s.lock.part b.part) && true))) = decide (s.lock = b) := by
 rw [bool_iff, id_eqb, decide_eq_true_eq]
theorem set_sweep (b : Id) (l : List Slot) {i : Nat} (hi : i < l.length) (h : swept b l[i] = true) : setElem (setElem ((upto (sweepS b) l i).map slotc) i 0 nodeZ) i 12 [I 0, I 0, I 0] = (upto (sweepS b) l (i + 1)).map slotc := by
 have e1 : setElem ((upto (sweepS b) l i).map slotc) i 0 nodeZ = ((upto (sweepS b) l i).modify i fun s => { s with node := noNode }).map slotc := set_cells slotc _ _ i 0 _ fun x _ => rfl
 have e2 : setElem (((upto (sweepS b) l i).modify i fun s => { s with node := noNode }).map slotc) i 12 [I 0, I 0, I 0] = (((upto (sweepS b) l i).modify i fun s => { s with node := noNode }).modify i fun s => { s with lock := zid }).map slotc := set_cells slotc _ _ i 12 _ fun x _ => rfl
 rw [e1, e2, ← upto_mod]
 congr 1
 refine List.ext_getElem? fun j => ?_
 rw [List.getElem?_modify, List.getElem?_modify, List.getElem?_modify]
 by_cases hij : i = j
 ·subst hij
  rw [upto_get, List.getElem?_eq_getElem hi]
  simp [sweepS, h]
 ·cases (upto (sweepS b) l i)[j]? <;> simp [hij]
theorem ids_snoc' (l : List Id) (x : Id) : idCells l ++ (([] : LL) ++ [[I x.core, I x.op, I x.part]]) = idCells (l ++ [x]) := by
 simp [idCells, idc]
theorem filt_take (b : Id) (l : List Slot) {i : Nat} (hi : i < l.length) : ((l.take (i + 1)).filter (swept b)).map (·.node.id) = ((l.take i).filter (swept b)).map (·.node.id) ++ (if swept b l[i] = true then [l[i].node.id] else []) := by
 rw [List.take_add_one, List.getElem?_eq_getElem hi, Option.toList_some, List.filter_append, List.map_append]
 by_cases h : swept b l[i] = true
 ·simp [h]
 ·simp [h]
theorem sweep_room (b : Id) (l : List Slot) (h : FewS l) (i : Nat) (x : LL) (hx : x.length = 1) : roomP (idCells (((l.take i).filter (swept b)).map (·.node.id))) x 24 := by
 have h1 := h.len
 have h2 : ((l.take i).filter (swept b)).length ≤ 70 := by
  refine Nat.le_trans (List.length_filter_le _ _) ?_
  rw [List.length_take]; omega
 exact room_small (by rw [ids_len, List.length_map, hx]; omega) (by omega)
theorem s15 (l : List Slot) (h : FewS l) (b : Id) : g15 (l.map slotc) b.core b.op b.part = some ((sweepL b l).map slotc, idCells (sweepI b l)) := by
 have hn : l.length < 2 ^ 63 := by have := h.len; omega
 rw [g15_eq, s8 l h, Option.bind_some, List.length_map, sweepL, sweepI]
 refine ite_goal (fun hz => ?_) fun hz => ?_
 ·have hz' : b = zid := by have := (zid_eqb b.core b.op b.part).1 hz; exact this
  rw [if_pos hz', if_pos hz']; rfl
 ·have hz' : ¬ b = zid := fun e => hz ((zid_eqb b.core b.op b.part).2 e)
  rw [if_neg hz', if_neg hz']
  have := loop_to (F := fun k (x : LL × LL) i => g15L0 k b.core b.op b.part x.1 x.2 (l.length : Int) i) (n := l.length) (fun i => ((upto (sweepS b) l i).map slotc, idCells (((l.take i).filter (swept b)).map (·.node.id)))) (fin := some ((l.map (sweepS b)).map slotc, idCells ((l.filter (swept b)).map (·.node.id)))) hn
   (fun k i hil => by
    show g15L0 (k + 1) _ _ _ _ _ _ _ = _
    have hul : ((upto (sweepS b) l i).map slotc).length = l.length := by rw [List.length_map, upto_len]
    rw [g15L0_eq, if_pos (lss_t hil), hul]
    refine (reqK_pos (by omega) _).trans ?_
    refine (reqK_pos (by omega) _).trans ?_
    refine (elem_upto _ l hil _).trans ?_
    simp only [slotV, d2, d4, d8, d16]
    rw [s25, Option.bind_some, inc_i hil hn, filt_take b l hil]
    refine ite_goal (fun h1 => ?_) fun h1 => ?_
    ·refine (reqK_pos (by omega) _).trans ?_
     refine (reqK_pos (by omega) _).trans ?_
     refine (elem_upto _ l hil _).trans ?_
     simp only [slotV, d2, d4, d8, d16]
     refine ite_goal (fun h2 => ?_) fun h2 => ?_
     ·rw [lock_dec] at h2
      have hs : swept b l[i] = true := by simp only [Bool.not_eq_true'] at h1; simp [swept, h1]; simpa using h2
      refine (reqK_pos (by omega) _).trans ?_
      refine (reqK_pos (by omega) _).trans ?_
      refine (elem_upto _ l hil _).trans ?_
      simp only [slotV, d2, d4, d8, d16]
      refine (reqK_pos (sweep_room b l h i _ rfl) _).trans ?_
      refine (reqK_pos (by omega) _).trans ?_
      refine (reqK_pos (by omega) _).trans ?_
      refine (reqK_pos (by omega) _).trans ?_
      refine (reqK_pos (by omega) _).trans ?_
      have hsl : (setElem ((upto (sweepS b) l i).map slotc) i 0 nodeZ).length = l.length := by
       have e1 : setElem ((upto (sweepS b) l i).map slotc) i 0 nodeZ = ((upto (sweepS b) l i).modify i fun s => { s with node := noNode }).map slotc := set_cells slotc _ _ i 0 _ fun x _ => rfl
       rw [e1, List.length_map, List.length_modify, upto_len]
      rw [Int.toNat_natCast]
      refine (reqK_pos (by omega) _).trans ?_
      refine (reqK_pos (by show (i : Int) < ((setElem ((upto (sweepS b) l i).map slotc) i 0 nodeZ).length : Int); rw [hsl]; omega) _).trans ?_
      refine (reqK_pos (by omega) _).trans ?_
      refine (reqK_pos (by show (i : Int) < ((setElem ((upto (sweepS b) l i).map slotc) i 0 nodeZ).length : Int); rw [hsl]; omega) _).trans ?_
      have hst := set_sweep b l hil hs
      simp only [hs, if_true]
      rw [ids_snoc']
      exact congrArg (fun x => g15L0 k b.core b.op b.part x _ _ _) hst
     ·rw [lock_dec] at h2
      have hs : swept b l[i] = false := by simp only [Bool.not_eq_true', decide_eq_true_eq] at h1 h2; simp [swept, h1, h2]
      rw [hs, if_neg Bool.false_ne_true, List.append_nil, upto_same (sweepS b) l hil (by simp [sweepS, hs])]
    ·have hs : swept b l[i] = false := by simp only [Bool.not_eq_true', Bool.not_eq_false] at h1; simp [swept, h1]
     rw [hs, if_neg Bool.false_ne_true, List.append_nil, upto_same (sweepS b) l hil (by simp [sweepS, hs])])
   (fun k => by
    show g15L0 (k + 1) _ _ _ _ _ _ _ = _
    rw [g15L0_eq, if_neg (lss_f (Nat.le_refl _)), upto_all, List.take_length])
  simp only [upto_zero, List.take_zero, List.filter_nil, List.map_nil] at this
  exact this
end Go.Proofs.Ytljejgmcgddppaa
end

section
namespace Go.Proofs.Ytljejgmcgddppaa
open Go Go.AM
set_option linter.unusedSimpArgs false
set_option linter.unusedVariables false
set_option maxRecDepth 100000
def setN (n : Node) (s : Slot) : Slot := { s with node := n }
def putErr (l : List Slot) (z : Int) (n : Node) : Int :=
 if z < 0 ∨ (l.length : Int) ≤ z ∨ nodeOk n = false ∨ l.any (hitS n.id) = true then 1 else if (l[z.toNat]?).any (fun s => !emptyS s) = true then 3 else 0
def putL (l : List Slot) (z : Int) (n : Node) : List Slot := if putErr l z n = 0 then l.modify z.toNat (setN n) else []
theorem nodeOk_path {n : Node} (h : nodeOk n = true) : n.path.length ≤ 8 := by
 simp only [nodeOk, Bool.and_eq_true, decide_eq_true_eq] at h
 exact h.1.2
theorem set_node (l : List Slot) (i : Nat) (n : Node) : setElem (l.map slotc) i 0 (nodec n) = (l.modify i (setN n)).map slotc := set_cells slotc (setN n) l i 0 _ fun _ _ => rfl
theorem s26 (l : List Slot) (h : FewS l) (z : Int) (n : Node) (hn : n.path.length < 2 ^ 63) : g26 (l.map slotc) z n.id.core n.id.op n.id.part (idCells n.path) n.cap.kind n.cap.base n.cap.bits n.cap.rights n.cap.width n.cap.level n.cap.device = some ((putL l z n).map slotc, putErr l z n) := by
 have hl : l.length < 2 ^ 63 := by have := h.len; omega
 obtain ⟨r, hf⟩ := s56 l hl n.id.core n.id.op n.id.part
 rw [g26_eq, hf, Option.bind_some]
 refine ite_goal (fun h1 => ?_) fun h1 => ite_goal (fun h2 => ?_) fun h2 => ?_
 ·simp only [CQ] at h1
  have he : putErr l z n = 1 := by rw [putErr, if_pos (.inl h1)]
  rw [putL, he]; rfl
 ·simp only [CQ, List.length_map] at h2
  have he : putErr l z n = 1 := by rw [putErr, if_pos (.inr (.inl h2))]
  rw [putL, he]; rfl
 simp only [CQ, List.length_map] at h1 h2
 rw [s38 n hn, Option.bind_some]
 refine ite_goal (fun h3 => ?_) fun h3 => ite_goal (fun h4 => ?_) fun h4 => ?_
 ·have he : putErr l z n = 1 := by rw [putErr, if_pos (.inr (.inr (.inl (by simpa using h3))))]
  rw [putL, he]; rfl
 ·have he : putErr l z n = 1 := by rw [putErr, if_pos (.inr (.inr (.inr h4)))]
  rw [putL, he]; rfl
 ·simp only [Bool.not_eq_true', Bool.not_eq_false] at h3
  have hno : ¬ (z < 0 ∨ (l.length : Int) ≤ z ∨ nodeOk n = false ∨ l.any (hitS n.id) = true) := by
   rintro (h | h | h | h)
   ·omega
   ·omega
   ·rw [h3] at h; cases h
   ·exact h4 h
  have hz : z = ((z.toNat : Nat) : Int) := by omega
  have hlt : z.toNat < l.length := by omega
  refine (elem_slot_at (by omega) hlt _).trans ?_
  simp only [slotV, d2, d4, d8, d16]
  rw [s25, Option.bind_some]
  have hat : l[z.toNat]? = some l[z.toNat] := List.getElem?_eq_getElem hlt
  refine ite_goal (fun h5 => ?_) fun h5 => ?_
  ·have he : putErr l z n = 3 := by rw [putErr, if_neg hno, if_pos (by rw [hat]; exact h5)]
   rw [putL, he]; rfl
  ·have he : putErr l z n = 0 := by rw [putErr, if_neg hno, if_neg (by rw [hat]; exact h5)]
   have hp := nodeOk_path h3
   rw [putL, he, s8 l h, Option.bind_some, s17 n (by omega), Option.bind_some, List.length_map]
   refine (reqK_pos (by omega) _).trans ?_
   refine (reqK_pos (by omega) _).trans ?_
   refine (reqK_pos (by omega) _).trans ?_
   refine (reqK_pos (by omega) _).trans ?_
   rw [if_pos rfl]
   exact congrArg (fun x => some (x, (0 : Int))) (set_node l z.toNat n)
def offR (r : Int) (m : Mark) : Bool := decide (m.region ≠ r)
def unmk (r : Int) (l : List Mark) : List Mark := l.filter (offR r)
theorem s9 (l : List Mark) (h : l.length ≤ 1000) : g9 (l.map markc) = some (l.map markc) := by
 rw [g9_eq]
 refine nilK_of (fun hn => ?_) ?_
 ·rw [if_pos rfl, hn]
 ·rw [if_neg Bool.false_ne_true]
  refine reqK_pos (room_small (by simp; omega) (by omega)) _
theorem reg_dec (a b : Int) : cop .eql a b = decide (a = b) := by rw [bool_iff]; simp only [CQ]
def isR (r : Int) (m : Mark) : Bool := decide (m.region = r)
def atM (q : Mark → Bool) (p : List Mark) (i : Nat) : Bool := match p[i]? with | some x => q x | none => false
theorem atM_at (q : Mark → Bool) {p : List Mark} {i : Nat} (h : i < p.length) : atM q p i = q p[i] := by unfold atM; rw [List.getElem?_eq_getElem h]
theorem s57c28 (l : List Mark) (hn : l.length < 2 ^ 63) (r : Int) : g57c28 (l.map markc) r = some (hitZ l.length (fst' (isR r) l), r) := by
 rw [g57c28_eq, List.length_map]
 exact scan_stop (F := fun k z => g57c28L0 k (l.map markc) (l.length : Int) z r) (n := l.length) (fun m => (hitZ l.length m, r)) (atM (isR r) l) hn
  (fun k j hj => by
   show g57c28L0 (k + 1) _ _ _ _ = _
   rw [g57c28L0_eq, if_pos (lss_t hj)]
   refine (elem_marks hj _).trans ?_
   rw [g28_eq, Option.bind_some, inc_i hj hn, atM_at _ hj, hitZ_lt hj]
   dsimp only
   rw [reg_dec]
   rfl)
  (fun k => by
   show g57c28L0 (k + 1) _ _ _ _ = _
   rw [g57c28L0_eq, if_neg (lss_f (Nat.le_refl _)), hitZ, if_neg (Nat.lt_irrefl _)]) (fst' (isR r) l) (fst_le _ l) (fun j hj => by
    have hl := fst_le (isR r) l
    rw [atM_at _ (by omega)]; exact fst_lt _ l j (by omega) hj) (fun h => by rw [atM_at _ h]; exact fst_at _ l h)
theorem off_is (r : Int) (m : Mark) : offR r m = !isR r m := by simp [offR, isR]
theorem set_mark (arr : List Mark) (w : Nat) (y : Mark) : setElem (arr.map markc) w 0 [I y.region, I y.op.core, I y.op.op, I y.op.part] = (arr.modify w fun _ => y).map markc := set_cells markc (fun _ => y) arr w 0 _ fun _ _ => rfl
theorem mod_ne {α : Type} (arr : List α) (w k : Nat) (f : α → α) (h : w ≠ k) : (arr.modify w f)[k]? = arr[k]? := by
 rw [List.getElem?_modify]
 cases arr[k]? <;> simp [h]
theorem take_mod {α : Type} (arr : List α) (w : Nat) (y : α) (h : w < arr.length) : (arr.modify w fun _ => y).take (w + 1) = arr.take w ++ [y] := by
 refine List.ext_getElem? fun k => ?_
 rw [List.getElem?_take]
 by_cases hk : k < w
 ·rw [if_pos (by omega), List.getElem?_append_left (by simp; omega), List.getElem?_take, if_pos hk, mod_ne _ _ _ _ (by omega)]
 ·by_cases hk2 : k = w
  ·subst hk2
   rw [if_pos (by omega), List.getElem?_append_right (by rw [List.length_take]; omega), List.getElem?_modify, List.getElem?_eq_getElem h]
   have : k - (arr.take k).length = 0 := by simp; omega
   rw [this]; simp
  ·rw [if_neg (by omega), List.getElem?_eq_none (by simp; omega)]
theorem l27 (l : List Mark) (r : Int) (hn : l.length < 2 ^ 62) : ∀ (d j fuel : Nat) (arr : List Mark), j + d = l.length → d < fuel → arr.length = l.length → (∀ k, j ≤ k → arr[k]? = l[k]?) →
  ((l.take j).filter (offR r)).length < j → arr.take ((l.take j).filter (offR r)).length = (l.take j).filter (offR r) →
  g27c28L0 fuel (arr.map markc) (((l.take j).filter (offR r)).length : Int) (j : Int) r = some ((unmk r l).map markc, r) := by
 intro d
 induction d with
 | zero =>
  intro j fuel arr h hf ha hk hw ht
  obtain ⟨q, rfl⟩ : ∃ q, fuel = q + 1 := ⟨fuel - 1, by omega⟩
  have hj : j = l.length := by omega
  subst hj
  rw [List.take_length] at hw ht
  rw [g27c28L0_eq, List.length_map, ha, if_neg (lss_f (Nat.le_refl _)), List.take_length]
  refine (reqK_pos (by omega) _).trans ?_
  refine (reqK_pos (by omega) _).trans ?_
  refine (reqK_pos (by omega) _).trans ?_
  have hsub : iop .sub .i64 (l.length : Int) ((l.filter (offR r)).length : Int) = (l.length : Int) - (l.filter (offR r)).length := by rw [sub_i (by omega) (by omega)]
  refine (reqK_pos (by simp only [List.length_append, List.length_take, List.length_map, List.length_replicate, Int.toNat_natCast]; omega) _).trans ?_
  rw [Int.toNat_natCast, List.take_append_of_le_length (by simp; omega), List.take_take, Nat.min_self, ← List.map_take, ht]
  rfl
 | succ d ih =>
  intro j fuel arr h hf ha hk hw ht
  obtain ⟨q, rfl⟩ : ∃ q, fuel = q + 1 := ⟨fuel - 1, by omega⟩
  have hj : j < l.length := by omega
  have hja : j < arr.length := by omega
  have haj : arr[j] = l[j] := by
   have := hk j (Nat.le_refl _)
   rw [List.getElem?_eq_getElem hja, List.getElem?_eq_getElem hj] at this
   exact Option.some.inj this
  have hft : (l.take (j + 1)).filter (offR r) = (l.take j).filter (offR r) ++ (if offR r l[j] = true then [l[j]] else []) := by
   rw [List.take_add_one, List.getElem?_eq_getElem hj, Option.toList_some, List.filter_append]
   by_cases hh : offR r l[j] = true
   ·simp [hh]
   ·simp [hh]
  rw [g27c28L0_eq, List.length_map, ha, if_pos (lss_t hj)]
  refine (reqK_pos (by omega) _).trans ?_
  refine (reqK_pos (by omega) _).trans ?_
  refine (elem_marks hja _).trans ?_
  rw [haj, g28_eq, Option.bind_some]
  dsimp only
  rw [inc_i hj (by omega), reg_dec]
  generalize hwd : ((l.take j).filter (offR r)).length = w at *
  refine ite_goal (fun h1 => ?_) fun h1 => ?_
  ·have hoff : offR r l[j] = true := by simpa [offR] using h1
   rw [if_pos hoff] at hft
   refine (reqK_pos (by omega) _).trans ?_
   refine (reqK_pos (by omega) _).trans ?_
   refine (reqK_pos (by omega) _).trans ?_
   refine (reqK_pos (by omega) _).trans ?_
   rw [Int.toNat_natCast, set_mark, inc_i (show w < l.length by omega) (by omega)]
   have hwl : ((l.take (j + 1)).filter (offR r)).length = w + 1 := by rw [hft, List.length_append, hwd]; rfl
   have := ih (j + 1) q (arr.modify w fun _ => l[j]) (by omega) (by omega) (by rw [List.length_modify]; exact ha) (fun k hkk => by rw [mod_ne _ _ _ _ (by omega)]; exact hk k (by omega)) (by rw [hwl]; omega)
    (by rw [hwl, take_mod _ _ _ (by omega), ht, hft])
   rw [hwl] at this
   exact this
  ·have hoff : ¬ offR r l[j] = true := by simpa [offR] using h1
   rw [if_neg hoff, List.append_nil] at hft
   have := ih (j + 1) q arr (by omega) (by omega) ha (fun k hkk => hk k (by omega)) (by rw [hft, hwd]; omega) (by rw [hft, hwd]; exact ht)
   rw [hft, hwd] at this
   exact this
theorem filt_none {α : Type} (q : α → Bool) : ∀ (l : List α) (j : Nat), (∀ (k : Nat) (hk : k < l.length), k < j → q l[k] = true) → (l.take j).filter q = l.take j := by
 intro l j h
 rw [List.filter_eq_self]
 intro x hx
 obtain ⟨k, hk, rfl⟩ := List.getElem_of_mem hx
 rw [List.getElem_take]
 simp at hk
 exact h k (by omega) (by omega)
theorem s12 (l : List Mark) (hn : l.length < 2 ^ 62) (r : Int) : g12 (l.map markc) r = some ((unmk r l).map markc) := by
 rw [g12_eq, g27c28_eq, s57c28 l (by omega) r, Option.bind_some]
 dsimp only
 have hle := fst_le (isR r) l
 have hno : ∀ (k : Nat) (hk : k < l.length), k < fst' (isR r) l → offR r l[k] = true := fun k hk h => by rw [off_is, fst_lt _ l k hk h]; rfl
 by_cases hlt : fst' (isR r) l < l.length
 ·rw [hitZ_lt hlt, if_neg (by simp only [CQ]; omega), inc_i hlt (by omega)]
  have hft0 := filt_none (offR r) l (fst' (isR r) l) hno
  have hat := fst_at (isR r) l hlt
  have hft : (l.take (fst' (isR r) l + 1)).filter (offR r) = l.take (fst' (isR r) l) := by
   rw [List.take_add_one, List.getElem?_eq_getElem hlt, Option.toList_some, List.filter_append, hft0]
   simp [off_is, hat]
  have hl1 : (l.take (fst' (isR r) l)).length = fst' (isR r) l := by rw [List.length_take]; omega
  have := l27 l r hn (l.length - (fst' (isR r) l + 1)) (fst' (isR r) l + 1) FUEL l (by omega) (by have := fuel63 (n := l.length) (by omega); omega) rfl (fun _ _ => rfl) (by rw [hft, hl1]; omega) (by rw [hft, hl1])
  rw [hft, hl1] at this
  rw [this]; rfl
 ·have he : fst' (isR r) l = l.length := by omega
  rw [hitZ, if_neg hlt, if_pos (by rfl)]
  have := filt_none (offR r) l l.length fun k hk _ => hno k hk (by omega)
  rw [List.take_length] at this
  unfold unmk
  rw [this]; rfl
def geR (r : Int) (m : Mark) : Bool := !decide (m.region < r)
def mkM (r : Int) (op : Id) (l : List Mark) : List Mark := (unmk r l).take (fst' (geR r) (unmk r l)) ++ [⟨r, op⟩] ++ (unmk r l).drop (fst' (geR r) (unmk r l))
theorem unmk_len (r : Int) (l : List Mark) : (unmk r l).length ≤ l.length := List.length_filter_le _ _
theorem take_marks (p : List Mark) (i : Nat) : List.take (Int.toNat (i : Int)) (p.map markc) = (p.take i).map markc := by rw [Int.toNat_natCast]; exact (List.map_take ..).symm
theorem drop_marks (p : List Mark) (i : Nat) : List.drop (Int.toNat (i : Int)) (p.map markc) = (p.drop i).map markc := by rw [Int.toNat_natCast]; exact (List.map_drop ..).symm
theorem ins_mark (p : List Mark) (r : Int) (op : Id) (i : Nat) (hi : i ≤ p.length) (h : p.length ≤ 1000) : g30 (p.map markc) (i : Int) (([] : LL) ++ [[I r, I op.core, I op.op, I op.part]]) = some ((p.take i ++ [(⟨r, op⟩ : Mark)] ++ p.drop i).map markc) := by
 rw [g30_eq, gIns]
 refine (reqK_pos (by omega) _).trans ?_
 refine (reqK_pos (by rw [List.length_map]; omega) _).trans ?_
 refine (reqK_pos (by simp) _).trans ?_
 refine (reqK_pos (room_small (by simp; omega) (by omega)) _).trans ?_
 rw [take_marks, drop_marks, List.map_append, List.map_append]
 rfl
theorem s14 (l : List Mark) (h : l.length ≤ 1000) (r : Int) (op : Id) : g14 (l.map markc) r op.core op.op op.part = some ((mkM r op l).map markc) := by
 rw [g14_eq, s12 l (by omega), Option.bind_some]
 have hl := unmk_len r l
 have hn : (unmk r l).length < 2 ^ 63 := by omega
 refine scan_stop (F := fun k z => g14L0 k ((unmk r l).map markc) r op.core op.op op.part z) (n := (unmk r l).length) (fun i => ((unmk r l).take i ++ [(⟨r, op⟩ : Mark)] ++ (unmk r l).drop i).map markc) (atM (geR r) (unmk r l)) hn
  (fun k j hj => ?_) (fun k => ?_) (fst' (geR r) (unmk r l)) (fst_le _ _) (fun j hj => by
    have hl := fst_le (geR r) (unmk r l)
    rw [atM_at _ (by omega)]; exact fst_lt _ _ j (by omega) hj) (fun h => by rw [atM_at _ h]; exact fst_at _ _ h)
 ·show g14L0 (k + 1) _ _ _ _ _ _ = _
  rw [g14L0_eq, List.length_map, if_pos (lss_t hj)]
  refine (reqK_pos (by omega) _).trans ?_
  refine (reqK_pos (by omega) _).trans ?_
  refine (elem_marks hj _).trans ?_
  rw [inc_i hj hn, atM_at _ hj, ins_mark _ r op j (by omega) (by omega)]
  refine ite_goal (fun h1 => ?_) fun h1 => ?_
  ·simp only [CQ] at h1
   rw [if_neg (by simp [geR, h1])]
  ·simp only [CQ] at h1
   rw [if_pos (by simp [geR]; omega)]; rfl
 ·show g14L0 (k + 1) _ _ _ _ _ _ = _
  rw [g14L0_eq, List.length_map, if_neg (lss_f (Nat.le_refl _)), ins_mark _ r op _ (Nat.le_refl _) (by omega)]; rfl
end Go.Proofs.Ytljejgmcgddppaa
end

section
namespace Go.Proofs.Ytljejgmcgddppaa
open Go Go.AM
set_option linter.unusedSimpArgs false
set_option linter.unusedVariables false
set_option maxRecDepth 100000
def rep (k e : Int) (m : Msg) : Msg := ⟨k, 0, 0, m.frm, 0, m.region, 0, m.op, e, false, noReq, [], [], [], [], 0, noView, noState, noReport⟩
def comc (c : Id × Bool) : List AV := [I c.1.core, I c.1.op, I c.1.part, B c.2]
def node1 (m : Msg) : Node := m.nodes.headD noNode
def inst (l : List Slot) (m : Msg) : Int :=
 if (l.length : Int) ≤ m.slot then 1 else match l[m.slot.toNat]? with
  | some s => if busyS s = true then 4 else if emptyS s = false then 3 else if putErr l m.slot (node1 m) ≠ 0 then 1 else 0
  | none => 1
def instL (l : List Slot) (m : Msg) : List Slot := if inst l m = 0 then putL l m.slot (node1 m) else l
theorem s11 (l : List Slot) (h : FewS l) (m : Msg) (n : Node) (hm : m.nodes = [n]) (hs : 0 ≤ m.slot) (hn : n.path.length < 2 ^ 63) : g11 (l.map slotc) m.kind m.view m.frm m.to m.round m.region m.slot m.op.core m.op.op m.op.part m.err m.settled m.req.id.core m.req.id.op m.req.id.part m.req.call.kind m.req.call.slot m.req.call.dest m.req.call.core m.req.call.mask m.req.call.object m.req.call.bits m.req.call.level m.req.call.offset m.req.call.count m.req.call.index m.req.call.addr m.req.region m.req.width m.req.src.id.core m.req.src.id.op m.req.src.id.part (idCells m.req.src.path) m.req.src.cap.kind m.req.src.cap.base m.req.src.cap.bits m.req.src.cap.rights m.req.src.cap.width m.req.src.cap.level m.req.src.cap.device (idCells m.ids) (m.nodes.map nodec) (intCells m.cores) (m.moves.map movec) m.base m.next.number (intCells m.next.members) (intCells m.next.owners) (m.state.slots.map slotc) (m.state.pending.map reqc) (m.state.marks.map markc) (m.state.answers.map ansc) (m.state.entries.map entryc) (idCells m.state.commits) m.report.core m.report.view.number (intCells m.report.view.members) (intCells m.report.view.owners) (m.report.state.slots.map slotc) (m.report.state.pending.map reqc) (m.report.state.marks.map markc) (m.report.state.answers.map ansc) (m.report.state.entries.map entryc) (idCells m.report.state.commits) m.report.ready m.report.next.number (intCells m.report.next.members) (intCells m.report.next.owners) (m.report.proposal.slots.map slotc) (m.report.proposal.pending.map reqc) (m.report.proposal.marks.map markc) (m.report.proposal.answers.map ansc) (m.report.proposal.entries.map entryc) (idCells m.report.proposal.commits) = some ((instL l m).map slotc, inst l m) := by
 have h1n : node1 m = n := by rw [node1, hm]; rfl
 rw [g11_eq]
 have hi : (0 : Nat) < m.nodes.length := by rw [hm]; exact Nat.zero_lt_one
 refine (elem_nodes hi _).trans ?_
 have hg : m.nodes[0] = n := by simp [hm]
 rw [hg]
 simp only [nodeV, d2, d4, d8, d16]
 refine ite_goal (fun h1 => ?_) fun h1 => ?_
 ·simp only [CQ, List.length_map] at h1
  have he : inst l m = 1 := if_pos h1
  rw [instL, he]; rfl
 simp only [CQ, List.length_map] at h1
 have hlt : m.slot.toNat < l.length := by omega
 have hat : l[m.slot.toNat]? = some l[m.slot.toNat] := List.getElem?_eq_getElem hlt
 have hinst : inst l m = if busyS l[m.slot.toNat] = true then 4 else if emptyS l[m.slot.toNat] = false then 3 else if putErr l m.slot n ≠ 0 then 1 else 0 := by
  rw [inst, if_neg h1, hat, h1n]
 refine (elem_slot_at hs hlt _).trans ?_
 simp only [slotV, d2, d4, d8, d16]
 rw [s24, Option.bind_some]
 refine ite_goal (fun h2 => ?_) fun h2 => ?_
 ·have he : inst l m = 4 := by rw [hinst, if_pos h2]
  rw [instL, he]; rfl
 refine (elem_slot_at hs hlt _).trans ?_
 simp only [slotV, d2, d4, d8, d16]
 rw [s25, Option.bind_some]
 refine ite_goal (fun h3 => ?_) fun h3 => ?_
 ·have he : inst l m = 3 := by rw [hinst, if_neg h2, if_pos (by simpa using h3)]
  rw [instL, he]; rfl
 have h3' : emptyS l[m.slot.toNat] = true := by simpa using h3
 rw [s26 l h m.slot n hn, Option.bind_some]
 refine ite_goal (fun h4 => ?_) fun h4 => ?_
 ·simp only [CQ] at h4
  have h4' : putErr l m.slot n ≠ 0 := h4
  have he : inst l m = 1 := by rw [hinst, if_neg h2, if_neg (by simp [h3']), if_pos h4']
  rw [instL, he]; rfl
 ·simp only [CQ] at h4
  have h4' : ¬ putErr l m.slot n ≠ 0 := h4
  have he : inst l m = 0 := by rw [hinst, if_neg h2, if_neg (by simp [h3']), if_neg h4']
  rw [instL, he, if_pos rfl, h1n]
structure HoldR where
 slots : List Slot
 marks : List Mark
 msgs : List Msg
 coms : List (Id × Bool)
def holdc (r : HoldR) : LL × LL × LL × LL := (r.slots.map slotc, r.marks.map markc, r.msgs.map msgc, r.coms.map comc)
def instC (l : List Slot) (m : Msg) : List (Id × Bool) := if inst l m = 0 then [(m.op, true)] else if inst l m = 3 then [(m.op, false)] else []
def hold (core : Int) (l : List Slot) (mk : List Mark) (m : Msg) : HoldR :=
 if validB m = false ∨ m.to ≠ core then ⟨l, mk, [], []⟩
 else if m.kind = 4 then ⟨instL l m, mk, [rep 5 (inst l m) m], instC l m⟩
 else if m.kind = 6 then ⟨l.map (lockS m.ids m.op), unmk m.region mk, [rep 7 0 m], []⟩
 else if m.kind = 8 then ⟨l, mkM m.region m.op mk, [rep 9 0 m], []⟩
 else if m.kind = 10 then ⟨sweepL m.op l, mk, [rep 11 0 m], []⟩
 else ⟨l, mk, [], []⟩
theorem inst_fields {m : Msg} (hv : validB m = true) (hk : m.kind = 4) : ∃ n, m.nodes = [n] ∧ 0 ≤ m.slot ∧ nodeOk n = true := by
 simp only [validB, Bool.and_eq_true] at hv
 obtain ⟨_, hf, _⟩ := hv
 have e : m.kind.toNat = 4 := by rw [hk]; rfl
 rw [e] at hf
 simp only [kf, List.all_cons, List.all_nil, Bool.and_true, Bool.and_eq_true, fieldOk, decide_eq_true_eq, Bool.or_eq_true, slotOk] at hf
 obtain ⟨_, _, hs, ⟨hl, h1⟩, hn⟩ := hf
 have hl1 : m.nodes.length = 1 := by
  rcases h1 with h1 | h1
  ·exact (h1 hk).elim
  ·exact h1
 match hmn : m.nodes, hl1 with
 | [n], _ =>
  rw [hmn] at hn
  simp at hn
  exact ⟨n, rfl, by omega, hn⟩
theorem s5 (core : Int) (l : List Slot) (h : FewS l) (mk : List Mark) (hk : mk.length ≤ 1000) (m : Msg) (hm : m.Fits) : g5 core (l.map slotc) (mk.map markc) m.kind m.view m.frm m.to m.round m.region m.slot m.op.core m.op.op m.op.part m.err m.settled m.req.id.core m.req.id.op m.req.id.part m.req.call.kind m.req.call.slot m.req.call.dest m.req.call.core m.req.call.mask m.req.call.object m.req.call.bits m.req.call.level m.req.call.offset m.req.call.count m.req.call.index m.req.call.addr m.req.region m.req.width m.req.src.id.core m.req.src.id.op m.req.src.id.part (idCells m.req.src.path) m.req.src.cap.kind m.req.src.cap.base m.req.src.cap.bits m.req.src.cap.rights m.req.src.cap.width m.req.src.cap.level m.req.src.cap.device (idCells m.ids) (m.nodes.map nodec) (intCells m.cores) (m.moves.map movec) m.base m.next.number (intCells m.next.members) (intCells m.next.owners) (m.state.slots.map slotc) (m.state.pending.map reqc) (m.state.marks.map markc) (m.state.answers.map ansc) (m.state.entries.map entryc) (idCells m.state.commits) m.report.core m.report.view.number (intCells m.report.view.members) (intCells m.report.view.owners) (m.report.state.slots.map slotc) (m.report.state.pending.map reqc) (m.report.state.marks.map markc) (m.report.state.answers.map ansc) (m.report.state.entries.map entryc) (idCells m.report.state.commits) m.report.ready m.report.next.number (intCells m.report.next.members) (intCells m.report.next.owners) (m.report.proposal.slots.map slotc) (m.report.proposal.pending.map reqc) (m.report.proposal.marks.map markc) (m.report.proposal.answers.map ansc) (m.report.proposal.entries.map entryc) (idCells m.report.proposal.commits) = some (holdc (hold core l mk m)) := by
 rw [g5_eq, s8 l h, Option.bind_some, s9 mk hk, Option.bind_some, s10 m hm, Option.bind_some]
 refine ite_goal (fun h1 => ?_) fun h1 => ite_goal (fun h2 => ?_) fun h2 => ?_
 ·rw [hold, if_pos (.inl (by simpa using h1))]; rfl
 ·simp only [CQ] at h2
  rw [hold, if_pos (.inr h2)]; rfl
 simp only [CQ] at h2
 have hv : validB m = true := by simpa using h1
 have hno : ¬ (validB m = false ∨ m.to ≠ core) := fun h => h.elim (fun h => by rw [hv] at h; cases h) h2
 rw [hold, if_neg hno]
 refine ite_goal (fun h4 => ?_) fun h4 => ?_
 ·simp only [CQ] at h4
  obtain ⟨n, hmn, hs, hok⟩ := inst_fields hv h4
  have hp := nodeOk_path hok
  rw [if_pos h4, s11 l h m n hmn hs (by omega), Option.bind_some, instC]
  refine ite_goal (fun h5 => ?_) fun h5 => ?_
  ·simp only [CQ] at h5
   have h5' : inst l m = 0 := h5
   rw [if_pos h5', h5']; rfl
  simp only [CQ] at h5
  have h5' : ¬ inst l m = 0 := h5
  refine ite_goal (fun h6 => ?_) fun h6 => ?_
  ·simp only [CQ] at h6
   have h6' : inst l m = 3 := h6
   rw [if_neg h5', if_pos h6', h6']; rfl
  ·simp only [CQ] at h6
   have h6' : ¬ inst l m = 3 := h6
   rw [if_neg h5', if_neg h6']; rfl
 simp only [CQ] at h4
 rw [if_neg h4]
 refine ite_goal (fun h6 => ?_) fun h6 => ?_
 ·simp only [CQ] at h6
  rw [if_pos h6, s12 mk (by omega), Option.bind_some, s13 l h m.ids hm.ids m.op, Option.bind_some]; rfl
 simp only [CQ] at h6
 rw [if_neg h6]
 refine ite_goal (fun h8 => ?_) fun h8 => ?_
 ·simp only [CQ] at h8
  rw [if_pos h8, s14 mk hk, Option.bind_some]; rfl
 simp only [CQ] at h8
 rw [if_neg h8]
 refine ite_goal (fun h10 => ?_) fun h10 => ?_
 ·simp only [CQ] at h10
  rw [if_pos h10, s15 l h m.op, Option.bind_some]; rfl
 ·simp only [CQ] at h10
  rw [if_neg h10]; rfl
theorem sameMk_refl (m : Mark) : sameMk m m = true := by simp [sameMk]
theorem s7 : g7 = some true := by kernel_rfl
theorem s4 (x n : Int) (h1 : 1 ≤ n) (h2 : n < 2 ^ 62) : g4 x n = some (x % n) := by
 have e62 : (2 : Int) ^ 62 = 4611686018427387904 := by decide
 have hm0 := Int.emod_nonneg x (show n ≠ 0 by omega)
 have hm1 := Int.emod_lt_of_pos x (show 0 < n by omega)
 have ht : iop .rem .i64 x n = x.tmod n := rfl
 rw [g4_eq, if_neg (by simp only [CQ]; omega), reqK_pos (by omega), ht]
 have := Int.tmod_eq_emod (a := x) (b := n)
 by_cases hd : 0 ≤ x ∨ n ∣ x
 ·rw [if_pos hd] at this
  rw [if_neg (by simp only [CQ]; omega)]
  congr 1
  omega
 ·rw [if_neg hd] at this
  have habs : ((n.natAbs : Nat) : Int) = n := by omega
  have hne : x % n ≠ 0 := fun h => hd (.inr (Int.dvd_of_emod_eq_zero h))
  rw [if_pos (by simp only [CQ]; omega), add_i (by omega) (by omega)]
  congr 1
  omega
end Go.Proofs.Ytljejgmcgddppaa
end

section
namespace Go.Proofs.Ytljejgmcgddppaa
open Go Go.AM
set_option linter.unusedSimpArgs false
set_option linter.unusedVariables false
set_option maxRecDepth 100000
def msg0 (k r z : Int) : Msg := ⟨k, 0, 0, 0, 0, r, 0, ⟨0, z, 0⟩, 0, false, noReq, [], [], [], [], 0, noView, noState, noReport⟩
theorem msg0_fits (k r z : Int) : (msg0 k r z).Fits := by
 have hv : noView.Fits := ⟨by simp [noView], by simp [noView]⟩
 have hs : noState.Fits := by constructor <;> simp [noState]
 exact ⟨by simp [msg0, noReq, noNode], by simp [msg0], by simp [msg0], by simp [msg0], by simp [msg0], by simp [msg0], hv, hs, ⟨hv, hs, hv, hs⟩⟩
theorem valid6 (r z : Int) : validB (msg0 6 r z) = ((regOk r && (opOk ⟨0, z, 0⟩ && true)) && true) := by kernel_rfl
theorem valid8 (r z : Int) : validB (msg0 8 r z) = ((regOk r && (opOk ⟨0, z, 0⟩ && true)) && true) := by kernel_rfl
theorem val_in {r z : Int} (hr : 0 ≤ r) (hr2 : r ≤ 2) (hz : 1 ≤ z) (hz2 : z ≤ 20) : ((regOk r && (opOk ⟨0, z, 0⟩ && true)) && true) = true := by
 simp [regOk, opOk, idOk]
 omega
def mk1 (r w : Int) : List Mark := if 0 < w then [⟨r, ⟨0, w, 0⟩⟩] else []
def canon (a b c : Int) : List Mark := mk1 0 a ++ (mk1 1 b ++ mk1 2 c)
theorem canon_len (a b c : Int) : (canon a b c).length ≤ 3 := by
 have h (r w : Int) : (mk1 r w).length ≤ 1 := by unfold mk1; split <;> simp
 have := h 0 a; have := h 1 b; have := h 2 c
 simp only [canon, List.length_append]; omega
def w0 (r z a : Int) (k : Int) : Int := if r = k then z else a
theorem unmk_canon (r a b c : Int) (hr : r = 0 ∨ r = 1 ∨ r = 2) : unmk r (canon a b c) = canon (w0 r 0 a 0) (w0 r 0 b 1) (w0 r 0 c 2) := by
 rcases hr with rfl | rfl | rfl <;> by_cases h1 : 0 < a <;> by_cases h2 : 0 < b <;> by_cases h3 : 0 < c <;> simp [canon, unmk, mk1, h1, h2, h3, offR, w0, List.filter]
theorem mkM_canon (r z a b c : Int) (hz : 0 < z) (hr : r = 0 ∨ r = 1 ∨ r = 2) : mkM r ⟨0, z, 0⟩ (canon a b c) = canon (w0 r z a 0) (w0 r z b 1) (w0 r z c 2) := by
 rw [mkM, unmk_canon r a b c hr]
 rcases hr with rfl | rfl | rfl <;> by_cases h1 : 0 < a <;> by_cases h2 : 0 < b <;> by_cases h3 : 0 < c <;> simp [canon, mk1, h1, h2, h3, hz, w0, geR, fst']
theorem hold6 (a b c r z : Int) (hr : r = 0 ∨ r = 1 ∨ r = 2) (hz : 1 ≤ z) (hz2 : z ≤ 20) : hold 0 [] (canon a b c) (msg0 6 r z) = ⟨[], canon (w0 r 0 a 0) (w0 r 0 b 1) (w0 r 0 c 2), [rep 7 0 (msg0 6 r z)], []⟩ := by
 have hv : validB (msg0 6 r z) = true := by rw [valid6]; exact val_in (by omega) (by omega) hz hz2
 rw [hold, if_neg (by rw [hv]; simp [msg0]), if_neg (by simp [msg0]), if_pos (show (msg0 6 r z).kind = 6 from rfl), show (msg0 6 r z).region = r from rfl, unmk_canon r a b c hr]
 rfl
theorem hold8 (a b c r z : Int) (hr : r = 0 ∨ r = 1 ∨ r = 2) (hz : 1 ≤ z) (hz2 : z ≤ 20) : hold 0 [] (canon a b c) (msg0 8 r z) = ⟨[], canon (w0 r z a 0) (w0 r z b 1) (w0 r z c 2), [rep 9 0 (msg0 8 r z)], []⟩ := by
 have hv : validB (msg0 8 r z) = true := by rw [valid8]; exact val_in (by omega) (by omega) hz hz2
 rw [hold, if_neg (by rw [hv]; simp [msg0]), if_neg (by simp [msg0]), if_neg (by simp [msg0]), if_pos (show (msg0 8 r z).kind = 8 from rfl), show (msg0 8 r z).region = r from rfl, show (msg0 8 r z).op = ⟨0, z, 0⟩ from rfl, mkM_canon r z a b c (by omega) hr]
theorem few0 : FewS [] := ⟨by simp, by simp⟩
theorem h6 (a b c r z : Int) (hr : r = 0 ∨ r = 1 ∨ r = 2) (hz : 1 ≤ z) (hz2 : z ≤ 20) : g5 0 ([] : LL) ((canon a b c).map markc) 6 0 0 0 0 r 0 0 z 0 0 false 0 0 0 0 0 0 0 0 0 0 0 0 0 0 0 0 0 0 0 0 ([] : LL) 0 0 0 0 0 0 false ([] : LL) ([] : LL) ([] : LL) ([] : LL) 0 0 ([] : LL) ([] : LL) ([] : LL) ([] : LL) ([] : LL) ([] : LL) ([] : LL) ([] : LL) 0 0 ([] : LL) ([] : LL) ([] : LL) ([] : LL) ([] : LL) ([] : LL) ([] : LL) ([] : LL) false 0 ([] : LL) ([] : LL) ([] : LL) ([] : LL) ([] : LL) ([] : LL) ([] : LL) ([] : LL) = some (([] : LL), (canon (w0 r 0 a 0) (w0 r 0 b 1) (w0 r 0 c 2)).map markc, [msgc (rep 7 0 (msg0 6 r z))], ([] : LL)) := by
 have hl := canon_len a b c
 have := s5 0 [] few0 (canon a b c) (by omega) (msg0 6 r z) (msg0_fits 6 r z)
 rw [hold6 a b c r z hr hz hz2] at this
 exact this
theorem h8 (a b c r z : Int) (hr : r = 0 ∨ r = 1 ∨ r = 2) (hz : 1 ≤ z) (hz2 : z ≤ 20) : g5 0 ([] : LL) ((canon a b c).map markc) 8 0 0 0 0 r 0 0 z 0 0 false 0 0 0 0 0 0 0 0 0 0 0 0 0 0 0 0 0 0 0 0 ([] : LL) 0 0 0 0 0 0 false ([] : LL) ([] : LL) ([] : LL) ([] : LL) 0 0 ([] : LL) ([] : LL) ([] : LL) ([] : LL) ([] : LL) ([] : LL) ([] : LL) ([] : LL) 0 0 ([] : LL) ([] : LL) ([] : LL) ([] : LL) ([] : LL) ([] : LL) ([] : LL) ([] : LL) false 0 ([] : LL) ([] : LL) ([] : LL) ([] : LL) ([] : LL) ([] : LL) ([] : LL) ([] : LL) = some (([] : LL), (canon (w0 r z a 0) (w0 r z b 1) (w0 r z c 2)).map markc, [msgc (rep 9 0 (msg0 8 r z))], ([] : LL)) := by
 have hl := canon_len a b c
 have := s5 0 [] few0 (canon a b c) (by omega) (msg0 8 r z) (msg0_fits 8 r z)
 rw [hold8 a b c r z hr hz hz2] at this
 exact this
theorem eqT {a b : Int} (h : a = b) : cop .eql a b = true := by simp only [CQ]; exact h
theorem eqF {a b : Int} (h : a ≠ b) : ¬ cop .eql a b = true := by simp only [CQ]; exact h
def wk (a b c k : Int) : Int := if k = 0 then a else if k = 1 then b else c
theorem in_step (rec0 : List V → Option Bool) (f : Nat) (l : LL) (y : LL) (a b c i : Int) (acc : List Mark) (k : Int) (hk : k = 0 ∨ k = 1 ∨ k = 2) (ha : acc.length ≤ 2) :
  g3L0 rec0 (f + 1) l y a b c i (acc.map markc) k = g3L0 rec0 f l y a b c i ((acc ++ mk1 k (wk a b c k)).map markc) (k + 1) := by
 have e : iop .add .i64 k 1 = k + 1 := by rw [add_i (by omega) (by omega)]
 have hr (w : Int) : roomP (acc.map markc) (([] : LL) ++ [[I k, I 0, I w, I 0]]) 32 := room_small (by simp; omega) (by omega)
 have hm (w : Int) : acc.map markc ++ (([] : LL) ++ [[I k, I 0, I w, I 0]]) = (acc ++ [(⟨k, ⟨0, w, 0⟩⟩ : Mark)]).map markc := by simp [markc]
 rw [g3L0_eq, if_pos (show cop .lss k 3 = true by simp only [CQ]; omega)]
 rcases hk with rfl | rfl | rfl
 ·rw [if_pos (eqT rfl)]
  rw [show wk a b c 0 = a from rfl]
  refine ite_goal (fun h => ?_) fun h => ?_
  ·simp only [CQ] at h
   rw [if_pos (eqT rfl), reqK_pos (hr _), hm, e, mk1, if_pos h]
  ·simp only [CQ] at h
   rw [e, mk1, if_neg h, List.append_nil]
 ·rw [if_neg (eqF (by omega)), if_pos (eqT rfl)]
  rw [show wk a b c 1 = b from rfl]
  refine ite_goal (fun h => ?_) fun h => ?_
  ·simp only [CQ] at h
   rw [if_neg (eqF (by omega)), if_pos (eqT rfl), reqK_pos (hr _), hm, e, mk1, if_pos h]
  ·simp only [CQ] at h
   rw [e, mk1, if_neg h, List.append_nil]
 ·rw [if_neg (eqF (by omega)), if_neg (eqF (by omega)), reqK_pos (by omega), reqK_pos (by omega)]
  rw [show wk a b c 2 = c from rfl]
  refine ite_goal (fun h => ?_) fun h => ?_
  ·simp only [CQ] at h
   rw [if_neg (eqF (by omega)), if_neg (eqF (by omega)), reqK_pos (by omega), reqK_pos (by omega), reqK_pos (hr _), hm, e, mk1, if_pos h]
  ·simp only [CQ] at h
   rw [e, mk1, if_neg h, List.append_nil]
theorem mk1_len (r w : Int) : (mk1 r w).length ≤ 1 := by unfold mk1; split <;> simp
theorem inner (rec0 : List V → Option Bool) (l : LL) (a b c i : Int) : g3L0 rec0 FUEL l ((canon a b c).map markc) a b c i ([] : LL) 0 = rec0 [.l l, .l ((canon a b c).map markc), .i a, .i b, .i c, .i (iop .add .i64 i 1)] := by
 obtain ⟨f, hf⟩ := fuel6
 rw [hf]
 have h0 := mk1_len 0 (wk a b c 0)
 have h1 := mk1_len 1 (wk a b c 1)
 refine (in_step rec0 _ l _ a b c i [] 0 (.inl rfl) (by simp)).trans ?_
 refine (in_step rec0 _ l _ a b c i _ 1 (.inr (.inl rfl)) (by simp; omega)).trans ?_
 refine (in_step rec0 _ l _ a b c i _ 2 (.inr (.inr rfl)) (by simp; omega)).trans ?_
 have hc : (([] ++ mk1 0 (wk a b c 0)) ++ mk1 1 (wk a b c 1)) ++ mk1 2 (wk a b c 2) = canon a b c := by
  rw [show wk a b c 0 = a from rfl, show wk a b c 1 = b from rfl, show wk a b c 2 = c from rfl, canon, List.nil_append, List.append_assoc]
 have hl := canon_len a b c
 refine (congrArg (fun x => g3L0 rec0 _ l ((canon a b c).map markc) a b c i (List.map markc x) 3) hc).trans ?_
 rw [g3L0_eq, if_neg (show ¬ cop .lss 3 3 = true by simp only [CQ]; omega), s6 _ _ (by omega), Option.bind_some, sameL_refl sameMk sameMk_refl, if_neg (by simp)]
theorem outer (l : List Int) (hn : l.length < 2 ^ 63) : ∀ (d i fuel : Nat) (a b c : Int), i + d = 41 → d < fuel →
  g3L1 fuel (intCells l) ((canon a b c).map markc) a b c (i : Int) = some true := by
 intro d
 induction d with
 | zero =>
  intro i fuel a b c h hf
  obtain ⟨q, rfl⟩ : ∃ q, fuel = q + 1 := ⟨fuel - 1, by omega⟩
  rw [g3L1_eq]
  refine ite_goal (fun _ => ?_) fun _ => by rw [s7]; rfl
  rw [if_neg (by simp only [CQ]; omega), s7]; rfl
 | succ d ih =>
  intro i fuel a b c h hf
  obtain ⟨q, rfl⟩ : ∃ q, fuel = q + 1 := ⟨fuel - 1, by omega⟩
  rw [g3L1_eq]
  refine ite_goal (fun h1 => ?_) fun _ => by rw [s7]; rfl
  simp only [CQ, ints_len] at h1
  refine ite_goal (fun h2 => ?_) fun _ => by rw [s7]; rfl
  simp only [CQ] at h2
  have hi : i < l.length := by omega
  have hr0 := Int.emod_nonneg l[i] (show (3 : Int) ≠ 0 by omega)
  have hr1 := Int.emod_lt_of_pos l[i] (show (0 : Int) < 3 by omega)
  refine (elem_ints hi _).trans ?_
  rw [s4 _ 3 (by omega) (by omega), Option.bind_some]
  refine (elem_ints hi _).trans ?_
  rw [reqK_pos (by omega), s4 _ 20 (by omega) (by omega), Option.bind_some]
  generalize hr : l[i] % 3 = r at hr0 hr1
  generalize iop .quo .i64 l[i] 6 = y
  have hz0 := Int.emod_nonneg y (show (20 : Int) ≠ 0 by omega)
  have hz1 := Int.emod_lt_of_pos y (show (0 : Int) < 20 by omega)
  have hz : iop .add .i64 1 (y % 20) = 1 + y % 20 := add_i (by omega) (by omega)
  rw [hz]
  generalize hze : 1 + y % 20 = z
  have hinc : iop .add .i64 (i : Int) 1 = ((i + 1 : Nat) : Int) := inc_i hi hn
  have fin (a' b' c' : Int) : g3L0 (F3.lp [0] 0 r0 q) FUEL (intCells l) ((canon a' b' c').map markc) a' b' c' (i : Int) ([] : LL) 0 = some true := by
   refine (inner _ _ a' b' c' _).trans ?_
   rw [hinc]
   exact ih (i + 1) q a' b' c' (by omega) (by omega)
  have hb : ∀ (o : Option (LL × LL × LL × LL)) (a' b' c' : Int) (m : List AV), o = some (([] : LL), (canon a' b' c').map markc, [m], ([] : LL)) →
    (o.bind fun (r12 : LL × LL × LL × LL) => if (cop .neq (List.length r12.2.2.1 : Int) 1) = true then some false else g3L0 (F3.lp [0] 0 r0 q) FUEL (intCells l) r12.2.1 a' b' c' (i : Int) ([] : LL) 0) = some true := by
   intro o a' b' c' m ho
   rw [ho, Option.bind_some]
   refine (if_neg (by simp [cop])).trans ?_
   exact fin a' b' c'
  have e3 : (3 : Int) ≠ 0 := by omega
  rcases (show r = 0 ∨ r = 1 ∨ r = 2 by omega) with rfl | rfl | rfl
  ·rw [if_pos (eqT rfl)]
   refine (elem_ints hi _).trans ?_
   rw [reqK_pos e3, s4 _ 2 (by omega) (by omega), Option.bind_some]
   refine ite_goal (fun h3 => ?_) fun h3 => ?_
   ·rw [if_pos (eqT rfl)]
    exact hb _ z b c _ (h8 a b c 0 z (.inl rfl) (by omega) (by omega))
   ·exact hb _ 0 b c _ (h6 a b c 0 z (.inl rfl) (by omega) (by omega))
  ·rw [if_neg (eqF (by omega)), if_pos (eqT rfl)]
   refine (elem_ints hi _).trans ?_
   rw [reqK_pos e3, s4 _ 2 (by omega) (by omega), Option.bind_some]
   refine ite_goal (fun h3 => ?_) fun h3 => ?_
   ·rw [if_neg (eqF (by omega)), if_pos (eqT rfl)]
    exact hb _ a z c _ (h8 a b c 1 z (.inr (.inl rfl)) (by omega) (by omega))
   ·exact hb _ a 0 c _ (h6 a b c 1 z (.inr (.inl rfl)) (by omega) (by omega))
  ·rw [if_neg (eqF (by omega)), if_neg (eqF (by omega)), reqK_pos (by omega), reqK_pos (by omega)]
   refine (elem_ints hi _).trans ?_
   rw [reqK_pos e3, s4 _ 2 (by omega) (by omega), Option.bind_some]
   refine ite_goal (fun h3 => ?_) fun h3 => ?_
   ·rw [if_neg (eqF (by omega)), if_neg (eqF (by omega)), reqK_pos (by omega), reqK_pos (by omega)]
    exact hb _ a b z _ (h8 a b c 2 z (.inr (.inr rfl)) (by omega) (by omega))
   ·exact hb _ a b 0 _ (h6 a b c 2 z (.inr (.inr rfl)) (by omega) (by omega))
theorem s3 (l : List Int) (hn : l.length < 2 ^ 63) : g3 (intCells l) = some true := by
 rw [g3_eq]
 exact outer l hn 41 0 FUEL 0 0 0 rfl (by have := @fuel63 41 (by omega); omega)
end Go.Proofs.Ytljejgmcgddppaa
end
