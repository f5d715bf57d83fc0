/- EndT5, T511a, T511b, T512a, T512d, T518a, T518b, T518c, T518d, T518e, T518f, T518g, T518h, T518i, T518j, T524a, T524c, T524d, T5L23a, T5L23b, T5L23c, T5L23d, T5J11a, T5J11b, T5L23f, T5L23g, T5L23h, T5L23i: texts of the proof, put together. -/
import Derived.Test.YthdihcchfjlgkaaGreatRows
import Derived.Test.YthdihcchfjlgkaaGreatChecked
import Derived.Test.YthdihcchfjlgkaaGreatM4
import Derived.JoinedOf
import Derived.JoinedAt
import Derived.RowKit3
import Derived.KernelRfl
import Derived.Test.YthdihcchfjlgkaaGreatF5d

section
namespace Go.Proofs.YthdihcchfjlgkaaGreat
open Go Go.AM
set_option maxRecDepth 100000
theorem behind : ∃ ws, behindMainWord (wordsSigns Tryz.prog.initOrder.toList) = "cut".toList :: ws := by
 have h : Tryz.prog.initOrder.toList = _ := String.toList_ofList (l := _)
 rw [h]
 exact behind_words (by kernel_rfl) (by kernel_rfl) (by kernel_rfl) (by kernel_rfl) (by kernel_rfl) (by kernel_rfl)
theorem enters : Tryz.prog.mayEnter = true := behind.elim fun _ h => Go.AM.enters_of h (by kernel_rfl) (by kernel_rfl) (by kernel_rfl)
theorem lifts : Tryz.prog.liftsFinal = false := behind.elim fun _ h => Go.AM.final_of h
theorem makeIs : Tryz.prog.make = some .cut := behind.elim fun _ h => Go.AM.make_of h
theorem laid : laidOutB Tryz.prog = true := by kernel_rfl
theorem ownKnobOk : ownKnob Tryz.prog.godebug = none := by kernel_rfl
theorem ty_int {d : Nat} {cs : List AV} (h : TyR Tryz.prog (d + 1) 3 cs) : ∃ z, cs = [I z] := by
 simp only [TyR, Tryz.underlying3] at h
 obtain ⟨z, h, _⟩ := h
 exact ⟨z, h⟩
theorem ty_bool {d : Nat} {cs : List AV} (h : TyR Tryz.prog (d + 1) 4 cs) : ∃ z, cs = [B z] := by
 simp only [TyR, Tryz.underlying4] at h
 exact h
theorem arg_int {x : AV} (h : ArgTy Tryz.prog 12 3 x) : ∃ z, x = I z := by
 simp only [ArgTy, Tryz.underlying3] at h
 obtain ⟨z, hz⟩ := ty_int h.2
 exact ⟨z, by simpa using hz⟩
def i64c (z : Int) : List AV := [I z]
def intCells (l : List Int) : List (List AV) := l.map i64c
structure Id where
 core : Int
 op : Int
 part : Int
 deriving DecidableEq
def idc (i : Id) : List AV := [I i.core, I i.op, I i.part]
def idCells (l : List Id) : List (List AV) := l.map idc
theorem list_lift {α β : Type} {f : α → β} {p : α → Prop} : ∀ (xs : List β), (∀ x ∈ xs, ∃ a, x = f a ∧ p a) → ∃ l : List α, xs = l.map f ∧ ∀ a ∈ l, p a
 | [], _ => ⟨[], rfl, by simp⟩
 | x :: xs, h => by
  obtain ⟨a, h1, h2⟩ := h x (by simp)
  obtain ⟨l, h3, h4⟩ := list_lift xs fun y hy => h y (by simp [hy])
  refine ⟨a :: l, by rw [h1, h3]; rfl, fun b hb => ?_⟩
  rcases List.mem_cons.1 hb with rfl | hb
  ·exact h2
  ·exact h4 b hb
def parTs : List TypeId := [3, 22, 23, 49, 37, 50]
theorem parOk (t : TypeId) (h : parTs.contains t = true) : fineB Tryz.prog 12 t = true ∧ t < Tryz.prog.types.size ∧ Tryz.prog.readableRec t = true := by
 have h2 : parTs.all (fun t => fineB Tryz.prog 12 t && decide (t < Tryz.prog.types.size) && Tryz.prog.readableRec t) = true := by kernel_rfl
 rw [List.all_eq_true] at h2
 have := h2 t (by simpa using h)
 simpa [and_assoc] using this
end Go.Proofs.YthdihcchfjlgkaaGreat
end

section
namespace Go.Proofs.YthdihcchfjlgkaaGreat
open Go Go.AM
set_option linter.unusedSimpArgs false
set_option linter.unusedVariables false
set_option maxRecDepth 100000
def sizeOk (k b : Int) : Bool := decide ((k = 1 ∧ 6 ≤ b ∧ b ≤ 40) ∨ (k = 2 ∧ 12 ≤ b ∧ b ≤ 40) ∨ (k = 3 ∧ b = 12) ∨ (k = 4 ∧ b = 6) ∨ (k = 5 ∧ b = 10) ∨ (k = 6 ∧ b = 16))
theorem s171 (k b : Int) : g171 k b = some (sizeOk k b) := by
 rw [g171_eq]
 repeat' split
 all_goals (refine congrArg some ?_; rw [bool_iff]; simp only [sizeOk, CQ] at *; omega)
def fixedOf (k : Int) : Int := if k = 3 then 12 else if k = 4 then 6 else if k = 5 then 10 else if k = 6 then 16 else 0
theorem s149 (k : Int) : g149 k = some (fixedOf k) := by
 rw [g149_eq]
 simp only [CQ, fixedOf]
 repeat' split
 all_goals first | rfl | omega
theorem s91 (k b : Int) : g91 k b = some (sizeOk k b) := by
 rw [g91_eq]
 simp only [s149, Option.bind_some]
 repeat' split
 all_goals (refine congrArg some ?_; rw [bool_iff]; simp only [sizeOk, CQ] at *; first | omega | (rcases (by omega : k = 3 ∨ k = 4 ∨ k = 5 ∨ k = 6) with rfl | rfl | rfl | rfl <;> simp [fixedOf]))
def formOk (w l : Int) : Bool := decide ((w = 32 ∧ 0 ≤ l ∧ l ≤ 1) ∨ (w = 39 ∧ 0 ≤ l ∧ l ≤ 2))
theorem s174 (w l : Int) : g174 w l = some (formOk w l) := by
 rw [g174_eq]
 repeat' split
 all_goals (refine congrArg some ?_; rw [bool_iff]; simp only [formOk, CQ] at *; omega)
theorem s92 (w l : Int) : g92 w l = some (formOk w l) := by
 rw [g92_eq]
 repeat' split
 all_goals (refine congrArg some ?_; rw [bool_iff]; simp only [formOk, CQ] at *; omega)
def rngOk (a b : Int) : Bool := decide (6 ≤ b ∧ b ≤ 40 ∧ 0 ≤ a ∧ a % 2 ^ b.toNat = 0 ∧ a + 2 ^ b.toNat ≤ 1099511627776)
theorem pow_hi {b : Int} (h : b ≤ 40) : (2 : Int) ^ b.toNat ≤ 1099511627776 := by
 have := pow_le2 (m := b.toNat) (n := 40) (by omega)
 have e : (2 : Int) ^ 40 = 1099511627776 := by decide
 omega
theorem rem_pow {a : Int} {n : Nat} (h : 0 ≤ a) : iop .rem .i64 a (2 ^ n) = a % 2 ^ n := Int.tmod_eq_emod_of_nonneg h
theorem sub_hi {b : Int} (h : b ≤ 40) : iop .sub .i64 1099511627776 (2 ^ b.toNat) = 1099511627776 - 2 ^ b.toNat := by
 have := pow_hi h
 have := pow_pos2 b.toNat
 exact wrap_of (by omega) (by omega)
theorem s172 (a b : Int) : g172 a b = some (rngOk a b) := by
 have hp := pow_pos2 b.toNat
 rw [g172_eq]
 by_cases h1 : 6 ≤ b ∧ b ≤ 40 ∧ 0 ≤ a
 ·obtain ⟨h1, h2, h3⟩ := h1
  have hs : iop .shl .i64 1 b = 2 ^ b.toNat := shl1 (by omega)
  have hr : reqK ((0 : Int) ≤ b) = fun (x : Option Bool) => x := funext fun x => reqK_pos (by omega) x
  have hn : reqK (((2 : Int) ^ b.toNat) ≠ 0) = fun (x : Option Bool) => x := funext fun x => reqK_pos (by omega) x
  simp only [hs, hr, hn, rem_pow h3, sub_hi h2]
  repeat' split
  all_goals (refine congrArg some ?_; rw [bool_iff]; simp only [rngOk, CQ] at *; omega)
 ·have hf : rngOk a b = false := by simp only [rngOk, decide_eq_false_iff_not]; omega
  rw [hf]
  repeat' split
  all_goals first | rfl | (exfalso; simp only [CQ] at *; omega)
theorem s145 (a b : Int) : g145 a b = some (rngOk a b) := by
 have hp := pow_pos2 b.toNat
 rw [g145_eq]
 by_cases h1 : 6 ≤ b ∧ b ≤ 40 ∧ 0 ≤ a
 ·obtain ⟨h1, h2, h3⟩ := h1
  have hw : IntKind.wrap .u64 b = b := wrapu_of (by omega) (by omega)
  have hs : iop .shl .i64 1 b = 2 ^ b.toNat := shl1 (by omega)
  have hr : reqK ((0 : Int) ≤ b) = fun (x : Option Bool) => x := funext fun x => reqK_pos (by omega) x
  have hn : reqK (((2 : Int) ^ b.toNat) ≠ 0) = fun (x : Option Bool) => x := funext fun x => reqK_pos (by omega) x
  have h40 := pow_hi h2
  simp only [hw, hs, hr, hn, rem_pow h3]
  repeat' split
  all_goals (refine congrArg some ?_; rw [bool_iff]; simp only [rngOk, CQ] at *; first | omega | (rw [add_i (by omega) (by omega)] at *; omega))
 ·have hf : rngOk a b = false := by simp only [rngOk, decide_eq_false_iff_not]; omega
  rw [hf]
  repeat' split
  all_goals first | rfl | (exfalso; simp only [CQ] at *; omega)
def rngEnd (a b : Int) : Int := if rngOk a b = true then a + 2 ^ b.toNat else 0
theorem rngOk_of {a b : Int} (h : rngOk a b = true) : 6 ≤ b ∧ b ≤ 40 ∧ 0 ≤ a ∧ a % 2 ^ b.toNat = 0 ∧ a + 2 ^ b.toNat ≤ 1099511627776 := by simpa [rngOk] using h
theorem end_val {a b : Int} (h : rngOk a b = true) : iop .add .i64 a (iop .shl .i64 1 b) = rngEnd a b := by
 obtain ⟨h1, h2, h3, h4, h5⟩ := rngOk_of h
 have := pow_pos2 b.toNat
 rw [shl1 (by omega), add_i (by omega) (by omega), rngEnd, if_pos h]
def overB (a b c d : Int) : Bool := rngOk a b && rngOk c d && decide (a < rngEnd c d) && decide (c < rngEnd a b)
def inB (a b c d : Int) : Bool := rngOk a b && rngOk c d && decide (a ≤ c) && decide (rngEnd c d ≤ rngEnd a b)
structure Cap where
 kind : Int
 base : Int
 bits : Int
 rights : Int
 width : Int
 level : Int
 device : Bool
theorem s173 (k b s r w l : Int) (d : Bool) : g173 k b s r w l d = some (b, s) := g173_eq ..
theorem s87 (k b s r w l : Int) (d : Bool) : g87 k b s r w l d = some (b, s) := g87_eq ..
def capOk (c : Cap) : Bool := sizeOk c.kind c.bits && rngOk c.base c.bits && decide (0 ≤ c.rights ∧ c.rights ≤ 7) && (if c.kind = 3 then formOk c.width c.level else decide (c.width = 0 ∧ c.level = 0)) && (!c.device || decide (c.kind = 1) || decide (c.kind = 2))
theorem s158 (k b s r w l : Int) (d : Bool) : g158 k b s r w l d = some (capOk ⟨k, b, s, r, w, l, d⟩) := by
 rw [g158_eq]
 simp only [s171, s173, s172, s174, Option.bind_some]
 repeat' split
 all_goals (refine congrArg some ?_; rw [bool_iff]; simp only [capOk, CQ] at *; grind)
theorem s90 (k b s r w l : Int) (d : Bool) : g90 k b s r w l d = some (capOk ⟨k, b, s, r, w, l, d⟩) := by
 rw [g90_eq]
 simp only [s91, s87, s145, s92, Option.bind_some]
 repeat' split
 all_goals (refine congrArg some ?_; rw [bool_iff]; simp only [capOk, CQ] at *; grind)
end Go.Proofs.YthdihcchfjlgkaaGreat
end

section
namespace Go.Proofs.YthdihcchfjlgkaaGreat
open Go Go.AM
set_option linter.unusedSimpArgs false
set_option linter.unusedVariables false
set_option maxRecDepth 100000
def newCell (obj a sz bits r w l : Int) (d : Bool) (j : Nat) : List AV := [I obj, I (a + j * sz), I bits, I r, I w, I l, B d]
def newCells (obj a sz bits r w l : Int) (d : Bool) (n : Nat) : List (List AV) := (List.range n).map (newCell obj a sz bits r w l d)
theorem newCells_succ (obj a sz bits r w l : Int) (d : Bool) (n : Nat) : newCells obj a sz bits r w l d (n + 1) = newCells obj a sz bits r w l d n ++ [newCell obj a sz bits r w l d n] := by
 simp [newCells, List.range_succ]
theorem newCells_len (obj a sz bits r w l : Int) (d : Bool) (n : Nat) : (newCells obj a sz bits r w l d n).length = n := by simp [newCells]
theorem fuel_lt {n : Nat} (h : n < 2 ^ 64) : n < FUEL := by
 have : FUEL = 1208925819614629174706176 := rfl
 omega
theorem room_ok {a b : List (List AV)} {k : Nat} (h : (a.length + b.length) * (k + 1) ≤ 1099511627776) : roomP a b k := h
theorem size_rng {k b : Int} (h : sizeOk k b = true) : 6 ≤ b ∧ b ≤ 40 := by
 simp only [sizeOk, decide_eq_true_eq] at h
 omega
theorem cap_rng {c : Cap} (h : capOk c = true) : rngOk c.base c.bits = true := by
 simp only [capOk, Bool.and_eq_true] at h
 exact h.1.1.1.2
def retErr (c : Cap) (obj bits level width off cnt : Int) : Int :=
 if capOk c = false ∨ c.kind ≠ 1 then 5
 else if iop .and .i64 c.rights 2 = 0 then 8
 else if sizeOk obj bits = false ∨ (obj = 3 ∧ formOk width level = false) ∨ cnt < 1 ∨ 8 < cnt ∨ off < 0 then 1
 else if c.device = true ∧ obj ≠ 1 ∧ obj ≠ 2 then 5
 else if off % 2 ^ bits.toNat ≠ 0 ∨ 2 ^ c.bits.toNat - cnt * 2 ^ bits.toNat < off ∨ (obj = 1 ∧ c.bits ≤ bits) then 6
 else 0
def retCells (c : Cap) (obj bits level width off cnt : Int) : List (List AV) :=
 if retErr c obj bits level width off cnt = 0 then newCells obj (c.base + off) (2 ^ bits.toNat) bits c.rights (if obj = 3 then width else 0) (if obj = 3 then level else 0) c.device cnt.toNat else []
theorem ret_bad {c : Cap} {obj bits level width off cnt e : Int} (he : e ≠ 0) (h : retErr c obj bits level width off cnt = e) :
  some (([] : List (List AV)), e) = some (retCells c obj bits level width off cnt, retErr c obj bits level width off cnt) := by
 simp only [retCells, h, if_neg he]
theorem ret_nums {c : Cap} {obj bits off cnt : Int} (hc : capOk c = true) (hs : sizeOk obj bits = true) (h1 : 1 ≤ cnt) (h2 : cnt ≤ 8) (h3 : 0 ≤ off) :
  iop .shl .i64 1 bits = 2 ^ bits.toNat ∧ iop .rem .i64 off (2 ^ bits.toNat) = off % 2 ^ bits.toNat ∧ iop .shl .i64 1 c.bits = 2 ^ c.bits.toNat ∧ iop .mul .i64 cnt (2 ^ bits.toNat) = cnt * 2 ^ bits.toNat ∧
   iop .sub .i64 (2 ^ c.bits.toNat) (cnt * 2 ^ bits.toNat) = 2 ^ c.bits.toNat - cnt * 2 ^ bits.toNat ∧ (2 : Int) ^ bits.toNat ≠ 0 ∧ 0 ≤ bits ∧ 0 ≤ c.bits ∧ 0 ≤ c.base ∧ c.base + 2 ^ c.bits.toNat ≤ 1099511627776 ∧
   0 < (2 : Int) ^ bits.toNat ∧ (2 : Int) ^ bits.toNat ≤ 1099511627776 ∧ (2 : Int) ^ bits.toNat ≤ cnt * 2 ^ bits.toNat ∧ 0 < (2 : Int) ^ c.bits.toNat ∧ bits ≤ 40 ∧ c.bits ≤ 40 := by
 obtain ⟨b1, b2⟩ := size_rng hs
 obtain ⟨r1, r2, r3, r4, r5⟩ := rngOk_of (cap_rng hc)
 have p1 := pow_pos2 bits.toNat
 have p2 := pow_pos2 c.bits.toNat
 have q1 := pow_hi b2
 have q2 := pow_hi r2
 have m1 : cnt * 2 ^ bits.toNat ≤ 8 * 2 ^ bits.toNat := Int.mul_le_mul_of_nonneg_right (by omega) (by omega)
 have m2 : 1 * 2 ^ bits.toNat ≤ cnt * 2 ^ bits.toNat := Int.mul_le_mul_of_nonneg_right (by omega) (by omega)
 refine ⟨shl1 (by omega), rem_pow (by omega), shl1 (by omega), mul_i (by omega) (by omega), sub_i (by omega) (by omega), by omega, by omega, by omega, r3, r5, p1, q1, by omega, p2, b2, r2⟩
theorem reqK_id {γ : Type} {p : Prop} {_ : Decidable p} (h : p) : (reqK p : Option γ → Option γ) = fun x => x := funext fun x => reqK_pos h x
theorem fuel6 : ∃ f, FUEL = f + 1 + 1 + 1 + 1 + 1 + 1 := ⟨FUEL - 6, by decide⟩
end Go.Proofs.YthdihcchfjlgkaaGreat
end

section
namespace Go.Proofs.YthdihcchfjlgkaaGreat
open Go Go.AM
set_option linter.unusedSimpArgs false
set_option linter.unusedVariables false
set_option maxRecDepth 100000
abbrev idSh : List Sh := [.int .i64, .int .i64, .int .i64]
def idOk (i : Id) : Bool := decide (0 ≤ i.core ∧ i.core < 32 ∧ 1 ≤ i.op ∧ i.op ≤ 1073741824 ∧ 0 ≤ i.part ∧ i.part < 8)
theorem s129 (a b c : Int) : g129 a b c = some (idOk ⟨a, b, c⟩) := by
 rw [g129_eq]
 repeat' split
 all_goals (refine congrArg some ?_; rw [bool_iff]; simp only [idOk, CQ] at *; omega)
theorem s154 (a : Int) : g154 a = some false := by
 rw [g154_eq]
 simp [cop]
def cmpI (a b : Int) : Int := if a < b then -1 else if b < a then 1 else 0
theorem s117 (a b : Int) : g117 a b = some (cmpI a b) := by
 rw [g117_eq]
 simp only [s154, Option.bind_some, Bool.false_eq_true, if_false]
 by_cases h1 : a < b
 ·rw [if_pos (by simp only [CQ]; omega), cmpI, if_pos h1]
 ·by_cases h2 : b < a
  ·rw [if_neg (by simp only [CQ]; omega), if_pos (by simp only [CQ]; omega), cmpI, if_neg h1, if_pos h2]
  ·rw [if_neg (by simp only [CQ]; omega), if_neg (by simp only [CQ]; omega), cmpI, if_neg h1, if_neg h2]
def firstNZ (x y z : Int) : Int := if x ≠ 0 then x else if y ≠ 0 then y else z
theorem s116 (x y z : Int) : g116 (((([] : List (List AV)) ++ [[AV.val (.int .i64 x)]]) ++ [[AV.val (.int .i64 y)]]) ++ [[AV.val (.int .i64 z)]]) = some (firstNZ x y z) := by
 obtain ⟨f, hf⟩ := fuel6
 have e : (((([] : List (List AV)) ++ [[AV.val (.int .i64 x)]]) ++ [[AV.val (.int .i64 y)]]) ++ [[AV.val (.int .i64 z)]]) = [i64c x, i64c y, i64c z] := rfl
 have e1 : iop .add .i64 0 1 = 1 := by decide
 have e2 : iop .add .i64 1 1 = 2 := by decide
 have e3 : iop .add .i64 2 1 = 3 := by decide
 have hl : (([i64c x, i64c y, i64c z] : List (List AV)).length : Int) = 3 := rfl
 rw [g116_eq, e, hf, hl]
 rw [g116L0_eq, if_pos (by decide), elemK_at (sh := [.int .i64]) (cs := i64c x) (r := x) _ (by decide) rfl rfl]
 by_cases hx : x = 0
 ·rw [if_neg (by simp only [CQ]; omega), e1, g116L0_eq, if_pos (by decide), elemK_at (sh := [.int .i64]) (cs := i64c y) (r := y) _ (by decide) rfl rfl]
  by_cases hy : y = 0
  ·rw [if_neg (by simp only [CQ]; omega), e2, g116L0_eq, if_pos (by decide), elemK_at (sh := [.int .i64]) (cs := i64c z) (r := z) _ (by decide) rfl rfl]
   by_cases hz : z = 0
   ·rw [if_neg (by simp only [CQ]; omega), e3, g116L0_eq, if_neg (by decide)]
    simp [firstNZ, hx, hy, hz]
   ·rw [if_pos (by simp only [CQ]; omega)]
    simp [firstNZ, hx, hy]
  ·rw [if_pos (by simp only [CQ]; omega)]
   simp [firstNZ, hx, hy]
 ·rw [if_pos (by simp only [CQ]; omega)]
  simp [firstNZ, hx]
theorem s69 (a b c d e f : Int) : g69 a b c d e f = some (firstNZ (cmpI a d) (cmpI b e) (cmpI c f)) := by
 rw [g69_eq]
 simp only [s117, Option.bind_some, s116]
def idLt (a b c d e f : Int) : Bool := decide (a < d ∨ (a = d ∧ (b < e ∨ (b = e ∧ c < f))))
theorem s39 (a b c d e f : Int) : g39 a b c d e f = some (idLt a b c d e f) := by
 rw [g39_eq, s69, Option.bind_some]
 refine congrArg some ?_
 rw [bool_iff]
 simp only [idLt, CQ, cmpI, firstNZ]
 repeat' split
 all_goals omega
theorem ids_len (l : List Id) : (idCells l).length = l.length := by simp [idCells]
theorem ids_take (l : List Id) (n : Nat) : (idCells l).take n = idCells (l.take n) := by simp [idCells, List.map_take]
theorem ids_at {l : List Id} {i : Nat} {x : Id} (h : l[i]? = some x) : (idCells l)[i]? = some (idc x) := by simp [idCells, h]
theorem elem_id {γ : Type} {l : List Id} {i : Int} {x : Id} (k : (Int × Int × Int) → Option γ) (h0 : 0 ≤ i) (h : l[i.toNat]? = some x) : elemK (idCells l) i idSh k = k (x.core, x.op, x.part) :=
 elemK_at (sh := idSh) (r := (x.core, x.op, x.part)) k h0 (ids_at h) rfl
theorem id_eqb (a b c d e f : Int) : ((cop .eql a d && (cop .eql b e && (cop .eql c f && true))) = true) ↔ ((⟨a, b, c⟩ : Id) = ⟨d, e, f⟩) := by
 simp only [CQ, Id.mk.injEq, and_true]
theorem l175 {l : List Id} (hl : l.length < 2 ^ 63) (a b c : Int) : ∀ (j i fuel : Nat), l.length = i + j → j < fuel → ∃ r, g175L0 fuel (idCells l) a b c (l.length : Int) i = some r ∧ (0 ≤ r ↔ (⟨a, b, c⟩ : Id) ∈ l.drop i) := by
 intro j
 induction j with
 | zero =>
  intro i fuel h hf
  obtain ⟨f, rfl⟩ : ∃ f, fuel = f + 1 := ⟨fuel - 1, by omega⟩
  refine ⟨-1, by rw [g175L0_eq, if_neg (by simp only [CQ]; omega)], ?_⟩
  rw [List.drop_of_length_le (by omega)]
  simp
 | succ j ih =>
  intro i fuel h hf
  obtain ⟨f, rfl⟩ : ∃ f, fuel = f + 1 := ⟨fuel - 1, by omega⟩
  have hi : i < l.length := by omega
  have hat : l[(i : Int).toNat]? = some l[i] := by simp
  have a4 : iop .add .i64 i 1 = ((i + 1 : Nat) : Int) := by rw [add_i (by omega) (by omega)]; omega
  rw [g175L0_eq, if_pos (by simp only [CQ]; omega), elem_id _ (by omega) hat, a4, List.drop_eq_getElem_cons hi]
  by_cases he : (⟨a, b, c⟩ : Id) = l[i]
  ·refine ⟨i, ?_, ?_⟩
   ·rw [if_pos]
    rw [id_eqb]
    exact he
   ·rw [List.mem_cons]
    exact ⟨fun _ => .inl he, fun _ => by omega⟩
  ·obtain ⟨r, h1, h2⟩ := ih (i + 1) f (by omega) (by omega)
   refine ⟨r, ?_, ?_⟩
   ·rw [if_neg, h1]
    rw [id_eqb]
    exact he
   ·rw [h2, List.mem_cons]
    simp [he]
theorem s159 (l : List Id) (hl : l.length < 2 ^ 63) (a b c : Int) : g159 (idCells l) a b c = some (l.contains ⟨a, b, c⟩) := by
 obtain ⟨r, h1, h2⟩ := l175 hl a b c l.length 0 FUEL (by omega) (fuel_lt (by omega))
 rw [g159_eq, g175_eq, ids_len]
 have h1' : g175L0 FUEL (idCells l) a b c (l.length : Int) 0 = some r := h1
 rw [h1', Option.bind_some]
 refine congrArg some ?_
 rw [bool_iff]
 simp only [CQ, List.contains_iff_mem]
 rw [List.drop_zero] at h2
 exact h2
structure Node where
 id : Id
 path : List Id
 cap : Cap
def pathAt (n : Node) (i : Nat) : Bool := match n.path[i]? with | none => true | some x => idOk x && decide (x ≠ n.id) && !(n.path.take i).contains x
def nodeOk (n : Node) : Bool := idOk n.id && capOk n.cap && decide (n.path.length ≤ 8) && (List.range n.path.length).all (pathAt n)
theorem l125 (n : Node) (hl : n.path.length < 2 ^ 63) : ∀ (j i fuel : Nat), n.path.length = i + j → j < fuel →
  g125L0 fuel n.id.core n.id.op n.id.part (idCells n.path) n.cap.kind n.cap.base n.cap.bits n.cap.rights n.cap.width n.cap.level n.cap.device (idCells n.path) (n.path.length : Int) i = some ((List.range' i j).all (pathAt n)) := by
 intro j
 induction j with
 | zero =>
  intro i fuel h hf
  obtain ⟨f, rfl⟩ : ∃ f, fuel = f + 1 := ⟨fuel - 1, by omega⟩
  rw [g125L0_eq, if_neg (by simp only [CQ]; omega)]
  rfl
 | succ j ih =>
  intro i fuel h hf
  obtain ⟨f, rfl⟩ : ∃ f, fuel = f + 1 := ⟨fuel - 1, by omega⟩
  have hi : i < n.path.length := by omega
  have hat : n.path[(i : Int).toNat]? = some n.path[i] := by simp
  have a4 : iop .add .i64 i 1 = ((i + 1 : Nat) : Int) := by rw [add_i (by omega) (by omega)]; omega
  have hp : pathAt n i = (idOk n.path[i] && decide (n.path[i] ≠ n.id) && !(n.path.take i).contains n.path[i]) := by
   unfold pathAt
   rw [List.getElem?_eq_getElem hi]
  have hlt : (n.path.take i).length < 2 ^ 63 := by rw [List.length_take]; omega
  rw [g125L0_eq, if_pos (by simp only [CQ]; omega), elem_id _ (by omega) hat, a4, List.range'_succ, List.all_cons, hp]
  simp only [s129, Option.bind_some]
  cases h1 : idOk n.path[i] with
  | false => simp
  | true =>
   rw [if_neg (by simp)]
   by_cases h2 : n.path[i] = n.id
   ·rw [if_pos (by rw [id_eqb]; exact h2)]
    simp [h2]
   ·rw [if_neg (by rw [id_eqb]; exact h2), reqK_pos (by omega), reqK_pos (by rw [ids_len]; omega), Int.toNat_natCast, ids_take, s159 _ hlt, Option.bind_some]
    cases h3 : (n.path.take i).contains n.path[i] with
    | true => simp
    | false =>
     rw [if_neg (by simp)]
     have := ih (i + 1) f (by omega) (by omega)
     rw [this]
     simp [h2]
theorem s125 (n : Node) (hl : n.path.length < 2 ^ 63) : g125 n.id.core n.id.op n.id.part (idCells n.path) n.cap.kind n.cap.base n.cap.bits n.cap.rights n.cap.width n.cap.level n.cap.device = some (nodeOk n) := by
 rw [g125_eq]
 simp only [s129, s158, Option.bind_some, ids_len]
 unfold nodeOk
 cases h1 : idOk n.id with
 | false => simp [show (⟨n.id.core, n.id.op, n.id.part⟩ : Id) = n.id from rfl, h1]
 | true =>
  cases h2 : capOk n.cap with
  | false => simp [show (⟨n.id.core, n.id.op, n.id.part⟩ : Id) = n.id from rfl, h1, show (⟨n.cap.kind, n.cap.base, n.cap.bits, n.cap.rights, n.cap.width, n.cap.level, n.cap.device⟩ : Cap) = n.cap from rfl, h2]
  | true =>
   rw [if_neg (by simp), if_neg (by simp)]
   by_cases h3 : n.path.length ≤ 8
   ·rw [if_neg (by simp only [CQ]; omega)]
    have := l125 n hl n.path.length 0 FUEL (by omega) (fuel_lt (by omega))
    have e : (List.range' 0 n.path.length) = List.range n.path.length := (List.range_eq_range' ..).symm
    rw [e] at this
    refine this.trans ?_
    simp [h3]
   ·rw [if_pos (by simp only [CQ]; omega)]
    simp [h3]
end Go.Proofs.YthdihcchfjlgkaaGreat
end

section
namespace Go.Proofs.YthdihcchfjlgkaaGreat
open Go Go.AM
set_option linter.unusedSimpArgs false
set_option linter.unusedVariables false
set_option maxRecDepth 100000
theorem s94 (a b c : Int) : g94 a b c = some (idOk ⟨a, b, c⟩) := by
 rw [g94_eq]
 repeat' split
 all_goals (refine congrArg some ?_; rw [bool_iff]; simp only [idOk, CQ] at *; omega)
theorem l58 {l : List Id} (hl : l.length < 2 ^ 63) (a b c : Int) : ∀ (j i fuel : Nat), l.length = i + j → j < fuel → g58L0 fuel (idCells l) a b c i = some ((l.drop i).contains ⟨a, b, c⟩) := by
 intro j
 induction j with
 | zero =>
  intro i fuel h hf
  obtain ⟨f, rfl⟩ : ∃ f, fuel = f + 1 := ⟨fuel - 1, by omega⟩
  rw [g58L0_eq, if_neg (by simp only [CQ, ids_len]; omega), List.drop_of_length_le (by omega)]
  rfl
 | succ j ih =>
  intro i fuel h hf
  obtain ⟨f, rfl⟩ : ∃ f, fuel = f + 1 := ⟨fuel - 1, by omega⟩
  have hi : i < l.length := by omega
  have hat : l[(i : Int).toNat]? = some l[i] := by simp
  have a4 : iop .add .i64 i 1 = ((i + 1 : Nat) : Int) := by rw [add_i (by omega) (by omega)]; omega
  rw [g58L0_eq, if_pos (by simp only [CQ, ids_len]; omega), elem_id _ (by omega) hat, a4, List.drop_eq_getElem_cons hi, List.contains_cons]
  by_cases he : l[i] = (⟨a, b, c⟩ : Id)
  ·rw [if_pos (by rw [id_eqb]; exact he)]
   simp [he]
  ·rw [if_neg (by rw [id_eqb]; exact he), ih (i + 1) f (by omega) (by omega)]
   have : ((⟨a, b, c⟩ : Id) == l[i]) = false := by simp; exact fun h => he h.symm
   rw [this, Bool.false_or]
theorem s58 (l : List Id) (hl : l.length < 2 ^ 63) (a b c : Int) : g58 (idCells l) a b c = some (l.contains ⟨a, b, c⟩) := by
 have := l58 hl a b c l.length 0 FUEL (by omega) (fuel_lt (by omega))
 rw [g58_eq]
 exact this
def pathRef (n : Node) (i : Nat) : Bool := match n.path[i]? with | none => true | some x => idOk x && !(n.path.take i).contains x
theorem nodeOk_ref (n : Node) : nodeOk n = (idOk n.id && capOk n.cap && decide (n.path.length ≤ 8) && (!n.path.contains n.id && (List.range n.path.length).all (pathRef n))) := by
 unfold nodeOk
 congr 1
 rw [bool_iff]
 simp only [Bool.and_eq_true, List.all_eq_true, List.mem_range, Bool.not_eq_true', ← Bool.not_eq_true, List.contains_iff_mem]
 constructor
 ·intro h
  refine ⟨fun hc => ?_, fun i hi => ?_⟩
  ·obtain ⟨i, hi⟩ := List.mem_iff_getElem?.1 hc
   have := h i (List.getElem?_eq_some_iff.1 hi).1
   unfold pathAt at this
   rw [hi] at this
   simp at this
  ·have := h i hi
   unfold pathAt at this
   unfold pathRef
   rw [List.getElem?_eq_getElem hi] at this ⊢
   simp only [Bool.and_eq_true] at this ⊢
   exact ⟨this.1.1, this.2⟩
 ·intro ⟨h1, h2⟩ i hi
  have := h2 i hi
  unfold pathRef at this
  unfold pathAt
  rw [List.getElem?_eq_getElem hi] at this ⊢
  simp only [Bool.and_eq_true, decide_eq_true_eq] at this ⊢
  exact ⟨⟨this.1, fun he => h1 (he ▸ List.getElem_mem hi)⟩, this.2⟩
theorem l93 (n : Node) (hl : n.path.length < 2 ^ 63) : ∀ (j i fuel : Nat), n.path.length = i + j → j < fuel →
  g93L0 fuel n.id.core n.id.op n.id.part (idCells n.path) n.cap.kind n.cap.base n.cap.bits n.cap.rights n.cap.width n.cap.level n.cap.device i = some ((List.range' i j).all (pathRef n)) := by
 intro j
 induction j with
 | zero =>
  intro i fuel h hf
  obtain ⟨f, rfl⟩ : ∃ f, fuel = f + 1 := ⟨fuel - 1, by omega⟩
  rw [g93L0_eq, if_neg (by simp only [CQ, ids_len]; omega)]
  rfl
 | succ j ih =>
  intro i fuel h hf
  obtain ⟨f, rfl⟩ : ∃ f, fuel = f + 1 := ⟨fuel - 1, by omega⟩
  have hi : i < n.path.length := by omega
  have hat : n.path[(i : Int).toNat]? = some n.path[i] := by simp
  have a4 : iop .add .i64 i 1 = ((i + 1 : Nat) : Int) := by rw [add_i (by omega) (by omega)]; omega
  have hp : pathRef n i = (idOk n.path[i] && !(n.path.take i).contains n.path[i]) := by
   unfold pathRef
   rw [List.getElem?_eq_getElem hi]
  have hlt : (n.path.take i).length < 2 ^ 63 := by rw [List.length_take]; omega
  rw [g93L0_eq, if_pos (by simp only [CQ, ids_len]; omega), elem_id _ (by omega) hat, a4, List.range'_succ, List.all_cons, hp]
  simp only [s94, Option.bind_some]
  cases h1 : idOk n.path[i] with
  | false => simp
  | true =>
   rw [if_neg (by simp), reqK_pos (by omega), reqK_pos (by rw [ids_len]; omega), elem_id _ (by omega) hat, Int.toNat_natCast, ids_take, s58 _ hlt, Option.bind_some]
   cases h3 : (n.path.take i).contains n.path[i] with
   | true => simp
   | false =>
    rw [if_neg (by simp)]
    have := ih (i + 1) f (by omega) (by omega)
    rw [this]
    simp
theorem s93 (n : Node) (hl : n.path.length < 2 ^ 63) : g93 n.id.core n.id.op n.id.part (idCells n.path) n.cap.kind n.cap.base n.cap.bits n.cap.rights n.cap.width n.cap.level n.cap.device = some (nodeOk n) := by
 rw [g93_eq, nodeOk_ref]
 simp only [s94, s90, Option.bind_some, ids_len, s58 _ hl]
 cases h1 : idOk n.id with
 | false => simp [show (⟨n.id.core, n.id.op, n.id.part⟩ : Id) = n.id from rfl, h1]
 | true =>
  cases h2 : capOk n.cap with
  | false => simp [show (⟨n.id.core, n.id.op, n.id.part⟩ : Id) = n.id from rfl, h1, show (⟨n.cap.kind, n.cap.base, n.cap.bits, n.cap.rights, n.cap.width, n.cap.level, n.cap.device⟩ : Cap) = n.cap from rfl, h2]
  | true =>
   rw [if_neg (by simp), if_neg (by simp)]
   by_cases h3 : n.path.length ≤ 8
   ·rw [if_neg (by simp only [CQ]; omega)]
    cases h4 : n.path.contains n.id with
    | true => simp
    | false =>
     rw [if_neg (by simp)]
     have := l93 n hl n.path.length 0 FUEL (by omega) (fuel_lt (by omega))
     have e : (List.range' 0 n.path.length) = List.range n.path.length := (List.range_eq_range' ..).symm
     rw [e] at this
     refine this.trans ?_
     simp [h3]
   ·rw [if_pos (by simp only [CQ]; omega)]
    simp [h3]
theorem l83 {l m : List Id} (hl : l.length < 2 ^ 63) (hm : l.length = m.length) : ∀ (j i fuel : Nat), l.length = i + j → j < fuel → g83L0 fuel (idCells l) (idCells m) i = some (decide (l.drop i = m.drop i)) := by
 intro j
 induction j with
 | zero =>
  intro i fuel h hf
  obtain ⟨f, rfl⟩ : ∃ f, fuel = f + 1 := ⟨fuel - 1, by omega⟩
  rw [g83L0_eq, if_neg (by simp only [CQ, ids_len]; omega), List.drop_of_length_le (by omega), List.drop_of_length_le (by omega)]
  rfl
 | succ j ih =>
  intro i fuel h hf
  obtain ⟨f, rfl⟩ : ∃ f, fuel = f + 1 := ⟨fuel - 1, by omega⟩
  have hi : i < l.length := by omega
  have hi' : i < m.length := by omega
  have hat : l[(i : Int).toNat]? = some l[i] := by simp
  have hat' : m[(i : Int).toNat]? = some m[i] := by simp
  have a4 : iop .add .i64 i 1 = ((i + 1 : Nat) : Int) := by rw [add_i (by omega) (by omega)]; omega
  rw [g83L0_eq, if_pos (by simp only [CQ, ids_len]; omega), elem_id _ (by omega) hat, elem_id _ (by omega) hat', a4, List.drop_eq_getElem_cons hi, List.drop_eq_getElem_cons hi']
  by_cases he : l[i] = m[i]
  ·rw [if_neg (by rw [Bool.not_eq_true', ← Bool.not_eq_true, id_eqb]; exact fun h => h he), ih (i + 1) f (by omega) (by omega)]
   simp only [he, List.cons.injEq, true_and]
  ·rw [if_pos (by rw [Bool.not_eq_true', ← Bool.not_eq_true, id_eqb]; exact he)]
   simp only [List.cons.injEq, he, false_and, decide_false]
theorem s83 (l m : List Id) (hl : l.length < 2 ^ 63) (hm : m.length < 2 ^ 63) : g83 (idCells l) (idCells m) = some (decide (l = m)) := by
 rw [g83_eq, ids_len, ids_len]
 by_cases h : l.length = m.length
 ·rw [if_neg (by simp only [CQ]; omega)]
  have := l83 hl h l.length 0 FUEL (by omega) (fuel_lt (by omega))
  rw [List.drop_zero, List.drop_zero] at this
  exact this
 ·rw [if_pos (by simp only [CQ]; omega)]
  have : ¬ l = m := fun he => h (by rw [he])
  simp [this]
end Go.Proofs.YthdihcchfjlgkaaGreat
end

section
namespace Go.Proofs.YthdihcchfjlgkaaGreat
open Go Go.AM
set_option linter.unusedSimpArgs false
set_option linter.unusedVariables false
set_option maxRecDepth 100000
theorem fuel63 {n : Nat} (h : n < 2 ^ 63) : n + 1 < FUEL := by
 have : (2 : Nat) ^ 64 ≤ FUEL := by decide
 omega
theorem inc_i {i n : Nat} (h : i < n) (hn : n < 2 ^ 63) : iop .add .i64 (i : Int) 1 = ((i + 1 : Nat) : Int) := by
 rw [add_i (by omega) (by omega)]; omega
theorem lss_t {i n : Nat} (h : i < n) : (cop .lss (i : Int) (n : Int)) = true := by
 simp only [CQ]; omega
theorem lss_f {i n : Nat} (h : n ≤ i) : ¬ (cop .lss (i : Int) (n : Int)) = true := by
 simp only [CQ]; omega
theorem scan_all {γ : Type} {F : Nat → Int → Option γ} {n : Nat} {fin bad : Option γ} (p : Nat → Bool) (hn : n < 2 ^ 63) (i0 : Nat) (hi0 : i0 ≤ 1)
  (step : ∀ k i : Nat, i0 ≤ i → i < n → F (k + 1) (i : Int) = if p i = true then F k ((i + 1 : Nat) : Int) else bad)
  (last : ∀ k i : Nat, n ≤ i → F (k + 1) (i : Int) = fin) : F FUEL (i0 : Int) = if (List.range' i0 (n - i0)).all p = true then fin else bad := by
 have key : ∀ (j i fuel : Nat), i0 ≤ i → n ≤ i + j → j < fuel → F fuel (i : Int) = if (List.range' i (n - i)).all p = true then fin else bad := by
  intro j
  induction j with
  | zero =>
   intro i fuel h0 h hf
   obtain ⟨f, rfl⟩ : ∃ f, fuel = f + 1 := ⟨fuel - 1, by omega⟩
   rw [last f i (by omega), show n - i = 0 by omega]
   rfl
  | succ j ih =>
   intro i fuel h0 h hf
   obtain ⟨f, rfl⟩ : ∃ f, fuel = f + 1 := ⟨fuel - 1, by omega⟩
   by_cases hi : i < n
   ·rw [step f i h0 hi, show n - i = (n - (i + 1)) + 1 by omega, List.range'_succ, List.all_cons]
    cases hp : p i with
    | true => rw [if_pos rfl, ih (i + 1) f (by omega) (by omega) (by omega), Bool.true_and]
    | false => rw [if_neg Bool.false_ne_true, Bool.false_and, if_neg Bool.false_ne_true]
   ·rw [last f i (by omega), show n - i = 0 by omega]
    rfl
 exact key n i0 FUEL (Nat.le_refl _) (by omega) (by have := fuel63 hn; omega)
theorem scan_idx {F : Nat → Int → Option Int} {n : Nat} (p : Nat → Bool) (hn : n < 2 ^ 63)
  (step : ∀ k i : Nat, i < n → F (k + 1) (i : Int) = if p i = true then some (i : Int) else F k ((i + 1 : Nat) : Int))
  (last : ∀ k i : Nat, n ≤ i → F (k + 1) (i : Int) = some (-1)) : ∃ r, F FUEL 0 = some r ∧ cop .geq r 0 = (List.range' 0 n).any p := by
 have key : ∀ (j i fuel : Nat), n ≤ i + j → j < fuel → ∃ r, F fuel (i : Int) = some r ∧ cop .geq r 0 = (List.range' i (n - i)).any p := by
  intro j
  induction j with
  | zero =>
   intro i fuel h hf
   obtain ⟨f, rfl⟩ : ∃ f, fuel = f + 1 := ⟨fuel - 1, by omega⟩
   rw [last f i (by omega), show n - i = 0 by omega]
   exact ⟨_, rfl, rfl⟩
  | succ j ih =>
   intro i fuel h hf
   obtain ⟨f, rfl⟩ : ∃ f, fuel = f + 1 := ⟨fuel - 1, by omega⟩
   by_cases hi : i < n
   ·rw [step f i hi, show n - i = (n - (i + 1)) + 1 by omega, List.range'_succ, List.any_cons]
    cases hp : p i with
    | true =>
     rw [if_pos rfl, Bool.true_or]
     refine ⟨_, rfl, ?_⟩
     simp only [CQ]
     omega
    | false => rw [if_neg Bool.false_ne_true, Bool.false_or]; exact ih (i + 1) f (by omega) (by omega)
   ·rw [last f i (by omega), show n - i = 0 by omega]
    exact ⟨_, rfl, rfl⟩
 have := key n 0 FUEL (by omega) (by have := fuel63 hn; omega)
 simpa using this
def atB {α : Type} (q : α → Bool) (l : List α) (i : Nat) : Bool := match l[i]? with | some x => q x | none => true
theorem atB_at {α : Type} (q : α → Bool) {l : List α} {i : Nat} (h : i < l.length) : atB q l i = q l[i] := by
 unfold atB
 rw [List.getElem?_eq_getElem h]
theorem all_at {α : Type} (q : α → Bool) (l : List α) : (List.range' 0 l.length).all (atB q l) = l.all q := by
 rw [bool_iff, List.all_eq_true, List.all_eq_true]
 constructor
 ·intro h x hx
  obtain ⟨i, hi, rfl⟩ := List.getElem_of_mem hx
  have := h i (by simp [List.mem_range', hi])
  rwa [atB_at q hi] at this
 ·intro h i hi
  have hi' : i < l.length := by simpa [List.mem_range'] using hi
  rw [atB_at q hi']
  exact h _ (List.getElem_mem hi')
theorem any_at {α : Type} (q : α → Bool) (l : List α) : (List.range' 0 l.length).any (fun i => !atB q l i) = !(l.all q) := by
 rw [← all_at q l, List.any_eq_not_all_not]
 simp
def prevB {α : Type} (lt : α → α → Bool) (l : List α) : Nat → Bool
 | 0 => true
 | j + 1 => match l[j]?, l[j + 1]? with | some a, some b => lt a b | _, _ => true
def ascB {α : Type} (lt : α → α → Bool) (l : List α) : Bool := (List.range' 0 l.length).all (prevB lt l)
theorem prev_at {α : Type} (lt : α → α → Bool) {l : List α} {j : Nat} (h : j + 1 < l.length) : prevB lt l (j + 1) = lt l[j] l[j + 1] := by
 show (match l[j]?, l[j + 1]? with | some a, some b => lt a b | _, _ => true) = _
 rw [List.getElem?_eq_getElem h, List.getElem?_eq_getElem (show j < l.length by omega)]
theorem asc1 {α : Type} (lt : α → α → Bool) (l : List α) : (List.range' 1 (l.length - 1)).all (prevB lt l) = ascB lt l := by
 unfold ascB
 cases l with
 | nil => rfl
 | cons a r => rw [show (a :: r).length = ((a :: r).length - 1) + 1 from rfl, List.range'_succ, List.all_cons]; rfl
structure Call where
 kind : Int
 slot : Int
 dest : Int
 core : Int
 mask : Int
 object : Int
 bits : Int
 level : Int
 offset : Int
 count : Int
 index : Int
 addr : Int
structure Req where
 id : Id
 call : Call
 region : Int
 width : Int
 src : Node
structure Slot where
 node : Node
 op : Int
 lock : Id
structure Mark where
 region : Int
 op : Id
structure Ans where
 op : Int
 err : Int
structure Entry where
 core : Int
 slot : Int
 node : Node
structure Move where
 region : Int
 to : Int
structure View where
 number : Int
 members : List Int
 owners : List Int
structure State where
 slots : List Slot
 pending : List Req
 marks : List Mark
 answers : List Ans
 entries : List Entry
 commits : List Id
structure Report where
 core : Int
 view : View
 state : State
 ready : Bool
 next : View
 proposal : State
def nodec (n : Node) : List AV := [I n.id.core, I n.id.op, I n.id.part, .slice false 3 (idCells n.path), I n.cap.kind, I n.cap.base, I n.cap.bits, I n.cap.rights, I n.cap.width, I n.cap.level, B n.cap.device]
def reqc (r : Req) : List AV := [I r.id.core, I r.id.op, I r.id.part, I r.call.kind, I r.call.slot, I r.call.dest, I r.call.core, I r.call.mask, I r.call.object, I r.call.bits, I r.call.level, I r.call.offset, I r.call.count, I r.call.index, I r.call.addr, I r.region, I r.width, I r.src.id.core, I r.src.id.op, I r.src.id.part, .slice false 3 (idCells r.src.path), I r.src.cap.kind, I r.src.cap.base, I r.src.cap.bits, I r.src.cap.rights, I r.src.cap.width, I r.src.cap.level, B r.src.cap.device]
def slotc (s : Slot) : List AV := [I s.node.id.core, I s.node.id.op, I s.node.id.part, .slice false 3 (idCells s.node.path), I s.node.cap.kind, I s.node.cap.base, I s.node.cap.bits, I s.node.cap.rights, I s.node.cap.width, I s.node.cap.level, B s.node.cap.device, I s.op, I s.lock.core, I s.lock.op, I s.lock.part]
def markc (m : Mark) : List AV := [I m.region, I m.op.core, I m.op.op, I m.op.part]
def ansc (a : Ans) : List AV := [I a.op, I a.err]
def movec (a : Move) : List AV := [I a.region, I a.to]
def entryc (e : Entry) : List AV := [I e.core, I e.slot, I e.node.id.core, I e.node.id.op, I e.node.id.part, .slice false 3 (idCells e.node.path), I e.node.cap.kind, I e.node.cap.base, I e.node.cap.bits, I e.node.cap.rights, I e.node.cap.width, I e.node.cap.level, B e.node.cap.device]
abbrev nodeSh : List Sh := [.int .i64, .int .i64, .int .i64, .slice 3, .int .i64, .int .i64, .int .i64, .int .i64, .int .i64, .int .i64, .bool]
abbrev reqSh : List Sh := [.int .i64, .int .i64, .int .i64, .int .i64, .int .i64, .int .i64, .int .i64, .int .i64, .int .i64, .int .i64, .int .i64, .int .i64, .int .i64, .int .i64, .int .i64, .int .i64, .int .i64, .int .i64, .int .i64, .int .i64, .slice 3, .int .i64, .int .i64, .int .i64, .int .i64, .int .i64, .int .i64, .bool]
abbrev slotSh : List Sh := [.int .i64, .int .i64, .int .i64, .slice 3, .int .i64, .int .i64, .int .i64, .int .i64, .int .i64, .int .i64, .bool, .int .i64, .int .i64, .int .i64, .int .i64]
abbrev entrySh : List Sh := [.int .i64, .int .i64, .int .i64, .int .i64, .int .i64, .slice 3, .int .i64, .int .i64, .int .i64, .int .i64, .int .i64, .int .i64, .bool]
def nodeV (n : Node) : ShsT nodeSh := (n.id.core, n.id.op, n.id.part, idCells n.path, n.cap.kind, n.cap.base, n.cap.bits, n.cap.rights, n.cap.width, n.cap.level, n.cap.device)
def reqV (r : Req) : ShsT reqSh := (r.id.core, r.id.op, r.id.part, r.call.kind, r.call.slot, r.call.dest, r.call.core, r.call.mask, r.call.object, r.call.bits, r.call.level, r.call.offset, r.call.count, r.call.index, r.call.addr, r.region, r.width, r.src.id.core, r.src.id.op, r.src.id.part, idCells r.src.path, r.src.cap.kind, r.src.cap.base, r.src.cap.bits, r.src.cap.rights, r.src.cap.width, r.src.cap.level, r.src.cap.device)
def slotV (s : Slot) : ShsT slotSh := (s.node.id.core, s.node.id.op, s.node.id.part, idCells s.node.path, s.node.cap.kind, s.node.cap.base, s.node.cap.bits, s.node.cap.rights, s.node.cap.width, s.node.cap.level, s.node.cap.device, s.op, s.lock.core, s.lock.op, s.lock.part)
def entryV (e : Entry) : ShsT entrySh := (e.core, e.slot, e.node.id.core, e.node.id.op, e.node.id.part, idCells e.node.path, e.node.cap.kind, e.node.cap.base, e.node.cap.bits, e.node.cap.rights, e.node.cap.width, e.node.cap.level, e.node.cap.device)
theorem elem_map {α γ : Type} {f : α → List AV} {sh : List Sh} {v : α → ShsT sh} (hf : ∀ x, ofEs sh (f x) = some (v x)) {l : List α} {i : Nat} (h : i < l.length) (k : ShsT sh → Option γ) : elemK (l.map f) (i : Int) sh k = k (v l[i]) := by
 refine elemK_at k (by omega) (cs := f l[i]) ?_ (hf _)
 rw [Int.toNat_natCast, List.getElem?_map, List.getElem?_eq_getElem h]
 rfl
theorem elem_nodes {γ : Type} {l : List Node} {i : Nat} (h : i < l.length) (k : ShsT nodeSh → Option γ) : elemK (l.map nodec) (i : Int) nodeSh k = k (nodeV l[i]) := elem_map (fun _ => rfl) h k
theorem elem_reqs {γ : Type} {l : List Req} {i : Nat} (h : i < l.length) (k : ShsT reqSh → Option γ) : elemK (l.map reqc) (i : Int) reqSh k = k (reqV l[i]) := elem_map (fun _ => rfl) h k
theorem elem_slots {γ : Type} {l : List Slot} {i : Nat} (h : i < l.length) (k : ShsT slotSh → Option γ) : elemK (l.map slotc) (i : Int) slotSh k = k (slotV l[i]) := elem_map (fun _ => rfl) h k
theorem elem_entries {γ : Type} {l : List Entry} {i : Nat} (h : i < l.length) (k : ShsT entrySh → Option γ) : elemK (l.map entryc) (i : Int) entrySh k = k (entryV l[i]) := elem_map (fun _ => rfl) h k
theorem elem_marks {γ : Type} {l : List Mark} {i : Nat} (h : i < l.length) (k : (Int × Int × Int × Int) → Option γ) : elemK (l.map markc) (i : Int) [.int .i64, .int .i64, .int .i64, .int .i64] k = k (l[i].region, l[i].op.core, l[i].op.op, l[i].op.part) := elem_map (sh := [.int .i64, .int .i64, .int .i64, .int .i64]) (v := fun x => (x.region, x.op.core, x.op.op, x.op.part)) (fun _ => rfl) h k
theorem elem_anss {γ : Type} {l : List Ans} {i : Nat} (h : i < l.length) (k : (Int × Int) → Option γ) : elemK (l.map ansc) (i : Int) [.int .i64, .int .i64] k = k (l[i].op, l[i].err) := elem_map (sh := [.int .i64, .int .i64]) (v := fun x => (x.op, x.err)) (fun _ => rfl) h k
theorem elem_moves {γ : Type} {l : List Move} {i : Nat} (h : i < l.length) (k : (Int × Int) → Option γ) : elemK (l.map movec) (i : Int) [.int .i64, .int .i64] k = k (l[i].region, l[i].to) := elem_map (sh := [.int .i64, .int .i64]) (v := fun x => (x.region, x.to)) (fun _ => rfl) h k
theorem elem_ids {γ : Type} {l : List Id} {i : Nat} (h : i < l.length) (k : (Int × Int × Int) → Option γ) : elemK (idCells l) (i : Int) [.int .i64, .int .i64, .int .i64] k = k (l[i].core, l[i].op, l[i].part) := elem_map (f := idc) (sh := [.int .i64, .int .i64, .int .i64]) (v := fun x => (x.core, x.op, x.part)) (fun _ => rfl) h k
theorem elem_ints {γ : Type} {l : List Int} {i : Nat} (h : i < l.length) (k : Int → Option γ) : elemK (intCells l) (i : Int) [.int .i64] k = k l[i] := elem_map (f := i64c) (sh := [.int .i64]) (v := fun x => x) (fun _ => rfl) h k
theorem id_eta (i : Id) : (⟨i.core, i.op, i.part⟩ : Id) = i := rfl
end Go.Proofs.YthdihcchfjlgkaaGreat
end

section
namespace Go.Proofs.YthdihcchfjlgkaaGreat
open Go Go.AM
set_option linter.unusedSimpArgs false
set_option linter.unusedVariables false
set_option maxRecDepth 100000
def coreOk (z : Int) : Bool := decide (0 ≤ z ∧ z < 32)
def regOk (z : Int) : Bool := decide (0 ≤ z ∧ z < 16)
def slotOk (z : Int) : Bool := decide (0 ≤ z ∧ z < 64)
def errOk (z : Int) : Bool := decide (0 ≤ z ∧ z ≤ 99)
def opOk (i : Id) : Bool := idOk i && decide (i.part = 0)
theorem s77 (z : Int) : g77 z = some (coreOk z) := by
 rw [g77_eq]
 repeat' split
 all_goals (refine congrArg some ?_; rw [bool_iff]; simp only [coreOk, CQ] at *; omega)
theorem s119 (z : Int) : g119 z = some (regOk z) := by
 rw [g119_eq]
 repeat' split
 all_goals (refine congrArg some ?_; rw [bool_iff]; simp only [regOk, CQ] at *; omega)
theorem s126 (z : Int) : g126 z = some (slotOk z) := by
 rw [g126_eq]
 repeat' split
 all_goals (refine congrArg some ?_; rw [bool_iff]; simp only [slotOk, CQ] at *; omega)
theorem s122 (z : Int) : g122 z = some (errOk z) := by
 rw [g122_eq]
 repeat' split
 all_goals (refine congrArg some ?_; rw [bool_iff]; simp only [errOk, CQ] at *; omega)
theorem s121 (i : Id) : g121 i.core i.op i.part = some (opOk i) := by
 rw [g121_eq, s129, Option.bind_some, id_eta]
 repeat' split
 all_goals (refine congrArg some ?_; rw [bool_iff]; simp only [opOk, CQ] at *; grind)
theorem l170 {l m : List Id} (hl : l.length < 2 ^ 63) (h : l.length = m.length) : g170L0 FUEL (idCells l) (idCells m) (l.length : Int) 0 = some (decide (l = m)) := by
 have := scan_all (F := fun k i => g170L0 k (idCells l) (idCells m) (l.length : Int) i) (n := l.length) (fin := some true) (bad := some false) (fun i => decide (l[i]? = m[i]?)) hl 0 (by omega)
  (fun k i _ hi => by
   have hm : i < m.length := by omega
   show g170L0 (k + 1) _ _ _ _ = _
   rw [g170L0_eq, if_pos (lss_t hi), elem_ids hi, elem_ids hm, inc_i hi hl]
   rw [List.getElem?_eq_getElem hi, List.getElem?_eq_getElem hm]
   by_cases he : l[i] = m[i]
   ·rw [if_neg (by rw [Bool.not_eq_true', ← Bool.not_eq_true, id_eqb]; exact fun h => h he), if_pos (by simp [he])]
   ·rw [if_pos (by rw [Bool.not_eq_true', ← Bool.not_eq_true, id_eqb]; exact he), if_neg (by simp [he])])
  (fun k i hi => by show g170L0 (k + 1) _ _ _ _ = _; rw [g170L0_eq, if_neg (lss_f hi)])
 refine this.trans ?_
 have e : (List.range' 0 (l.length - 0)).all (fun i => decide (l[i]? = m[i]?)) = decide (l = m) := by
  rw [bool_iff, List.all_eq_true, decide_eq_true_eq]
  constructor
  ·intro hh
   refine List.ext_getElem? fun i => ?_
   by_cases hi : i < l.length
   ·exact of_decide_eq_true (hh i (by simp [List.mem_range', hi]))
   ·rw [List.getElem?_eq_none (by omega), List.getElem?_eq_none (by omega)]
  ·rintro rfl i _
   exact decide_eq_true rfl
 rw [e]
 cases decide (l = m) <;> rfl
theorem s170 (l m : List Id) (hl : l.length < 2 ^ 63) : g170 (idCells l) (idCells m) = some (decide (l = m)) := by
 rw [g170_eq, ids_len, ids_len]
 by_cases h : l.length = m.length
 ·rw [if_neg (by simp [cop, h]), l170 hl h]
 ·rw [if_pos (by simp [cop]; omega)]
  have : ¬ l = m := fun he => h (by rw [he])
  simp [this]
def sameN (a b : Node) : Bool := decide (a.id = b.id) && decide (a.cap.kind = b.cap.kind ∧ a.cap.base = b.cap.base ∧ a.cap.bits = b.cap.bits ∧ a.cap.rights = b.cap.rights ∧ a.cap.width = b.cap.width ∧ a.cap.level = b.cap.level ∧ a.cap.device = b.cap.device) && decide (a.path = b.path)
theorem cap_eqb (a b : Cap) : (((cop .eql a.kind b.kind) && ((cop .eql a.base b.base) && ((cop .eql a.bits b.bits) && ((cop .eql a.rights b.rights) && ((cop .eql a.width b.width) && ((cop .eql a.level b.level) && ((a.device == b.device) && true))))))) = true) ↔ (a.kind = b.kind ∧ a.base = b.base ∧ a.bits = b.bits ∧ a.rights = b.rights ∧ a.width = b.width ∧ a.level = b.level ∧ a.device = b.device) := by
 simp only [CQ, beq_iff_eq, and_true]
theorem s156 (a b : Node) (ha : a.path.length < 2 ^ 63) : g156 a.id.core a.id.op a.id.part (idCells a.path) a.cap.kind a.cap.base a.cap.bits a.cap.rights a.cap.width a.cap.level a.cap.device b.id.core b.id.op b.id.part (idCells b.path) b.cap.kind b.cap.base b.cap.bits b.cap.rights b.cap.width b.cap.level b.cap.device = some (sameN a b) := by
 rw [g156_eq, s170 _ _ ha, Option.bind_some]
 unfold sameN
 refine ite_goal (fun h => ?_) fun h => ?_
 ·rw [id_eqb] at h
  refine ite_goal (fun h2 => ?_) fun h2 => ?_
  ·rw [cap_eqb] at h2
   rw [decide_eq_true (show a.id = b.id from h), decide_eq_true h2]; rfl
  ·rw [cap_eqb] at h2
   rw [decide_eq_true (show a.id = b.id from h), decide_eq_false h2]; rfl
 ·rw [id_eqb] at h
  rw [decide_eq_false (show ¬ a.id = b.id from h)]; rfl
theorem s49' (a b : Node) (ha : a.path.length < 2 ^ 63) (hb : b.path.length < 2 ^ 63) : g49 a.id.core a.id.op a.id.part (idCells a.path) a.cap.kind a.cap.base a.cap.bits a.cap.rights a.cap.width a.cap.level a.cap.device b.id.core b.id.op b.id.part (idCells b.path) b.cap.kind b.cap.base b.cap.bits b.cap.rights b.cap.width b.cap.level b.cap.device = some (sameN a b) := by
 rw [g49_eq, s83 _ _ ha hb, Option.bind_some]
 unfold sameN
 refine ite_goal (fun h => ?_) fun h => ?_
 ·rw [id_eqb] at h
  refine ite_goal (fun h2 => ?_) fun h2 => ?_
  ·rw [cap_eqb] at h2
   rw [decide_eq_true (show a.id = b.id from h), decide_eq_true h2]; rfl
  ·rw [cap_eqb] at h2
   rw [decide_eq_true (show a.id = b.id from h), decide_eq_false h2]; rfl
 ·rw [id_eqb] at h
  rw [decide_eq_false (show ¬ a.id = b.id from h)]; rfl
def noNode : Node := ⟨⟨0, 0, 0⟩, [], ⟨0, 0, 0, 0, 0, 0, false⟩⟩
theorem s156z (a : Node) (ha : a.path.length < 2 ^ 63) : g156 a.id.core a.id.op a.id.part (idCells a.path) a.cap.kind a.cap.base a.cap.bits a.cap.rights a.cap.width a.cap.level a.cap.device 0 0 0 ([] : List (List AV)) 0 0 0 0 0 0 false = some (sameN a noNode) := s156 a noNode ha
def reqOk (r : Req) : Bool := opOk r.id && decide (1 ≤ r.call.kind ∧ r.call.kind ≤ 6) && regOk r.region && decide (r.width = 32 ∨ r.width = 39) && (if r.call.kind = 1 then sameN r.src noNode else nodeOk r.src)
theorem s120 (r : Req) (hr : r.src.path.length < 2 ^ 63) : g120 r.id.core r.id.op r.id.part r.call.kind r.call.slot r.call.dest r.call.core r.call.mask r.call.object r.call.bits r.call.level r.call.offset r.call.count r.call.index r.call.addr r.region r.width r.src.id.core r.src.id.op r.src.id.part (idCells r.src.path) r.src.cap.kind r.src.cap.base r.src.cap.bits r.src.cap.rights r.src.cap.width r.src.cap.level r.src.cap.device = some (reqOk r) := by
 rw [g120_eq]
 simp only [s121, s119, s156z _ hr, s125 _ hr, Option.bind_some]
 repeat' split
 all_goals (refine congrArg some ?_; rw [bool_iff]; simp only [reqOk, CQ] at *; grind)
end Go.Proofs.YthdihcchfjlgkaaGreat
end

section
namespace Go.Proofs.YthdihcchfjlgkaaGreat
open Go Go.AM
set_option linter.unusedSimpArgs false
set_option linter.unusedVariables false
set_option maxRecDepth 100000
theorem scan_hit {γ : Type} {F : Nat → Int → Option γ} {n : Nat} {miss : γ} (hit : Nat → γ) (p : Nat → Bool) (hn : n < 2 ^ 63)
  (step : ∀ k i : Nat, i < n → F (k + 1) (i : Int) = if p i = true then some (hit i) else F k ((i + 1 : Nat) : Int))
  (last : ∀ k i : Nat, n ≤ i → F (k + 1) (i : Int) = some miss) :
  (∃ i, i < n ∧ p i = true ∧ (∀ j, j < i → p j = false) ∧ F FUEL 0 = some (hit i)) ∨ ((∀ j, j < n → p j = false) ∧ F FUEL 0 = some miss) := by
 have key : ∀ (j i fuel : Nat), n ≤ i + j → j < fuel → (∃ m, i ≤ m ∧ m < n ∧ p m = true ∧ (∀ j, i ≤ j → j < m → p j = false) ∧ F fuel (i : Int) = some (hit m)) ∨ ((∀ j, i ≤ j → j < n → p j = false) ∧ F fuel (i : Int) = some miss) := by
  intro j
  induction j with
  | zero =>
   intro i fuel h hf
   obtain ⟨f, rfl⟩ : ∃ f, fuel = f + 1 := ⟨fuel - 1, by omega⟩
   exact .inr ⟨fun j h1 h2 => by omega, last f i (by omega)⟩
  | succ j ih =>
   intro i fuel h hf
   obtain ⟨f, rfl⟩ : ∃ f, fuel = f + 1 := ⟨fuel - 1, by omega⟩
   by_cases hi : i < n
   ·rw [step f i hi]
    cases hp : p i with
    | true => exact .inl ⟨i, Nat.le_refl _, hi, hp, fun j h1 h2 => by omega, if_pos rfl⟩
    | false =>
     rw [if_neg Bool.false_ne_true]
     rcases ih (i + 1) f (by omega) (by omega) with ⟨m, h1, h2, h3, h4, h5⟩ | ⟨h1, h2⟩
     ·refine .inl ⟨m, by omega, h2, h3, fun j h6 h7 => ?_, h5⟩
      by_cases he : j = i
      ·rw [he]; exact hp
      ·exact h4 j (by omega) h7
     ·refine .inr ⟨fun j h6 h7 => ?_, h2⟩
      by_cases he : j = i
      ·rw [he]; exact hp
      ·exact h1 j (by omega) h7
   ·exact .inr ⟨fun j h1 h2 => by omega, last f i (by omega)⟩
 rcases key n 0 FUEL (by omega) (by have := fuel63 hn; omega) with ⟨m, _, h2, h3, h4, h5⟩ | ⟨h1, h2⟩
 ·exact .inl ⟨m, h2, h3, fun j hj => h4 j (by omega) hj, h5⟩
 ·exact .inr ⟨fun j hj => h1 j (by omega) hj, h2⟩
def zid : Id := ⟨0, 0, 0⟩
def hitS (i : Id) (t : Slot) : Bool := !decide (t.node.id = zid) && decide (t.node.id = i)
def slot1 (s : Slot) : Bool := decide (0 ≤ s.op ∧ s.op ≤ 1073741824) && (if s.node.id = zid then sameN s.node noNode && decide (s.lock = zid) else nodeOk s.node && (decide (s.lock = zid) || opOk s.lock))
def uniqAt (l : List Slot) (i : Nat) : Bool := match l[i]? with | some s => !((l.take i).any (hitS s.node.id)) | none => true
def slotsOk (l : List Slot) : Bool := decide (l.length ≤ 64) && (List.range' 0 l.length).all (fun i => atB slot1 l i && uniqAt l i)
theorem zid_eqb (a b c : Int) : ((cop .eql a 0 && (cop .eql b 0 && (cop .eql c 0 && true))) = true) ↔ ((⟨a, b, c⟩ : Id) = zid) := id_eqb a b c 0 0 0
theorem s176 (s : Slot) (hs : s.node.path.length < 2 ^ 63) : g176 s.node.id.core s.node.id.op s.node.id.part (idCells s.node.path) s.node.cap.kind s.node.cap.base s.node.cap.bits s.node.cap.rights s.node.cap.width s.node.cap.level s.node.cap.device s.op s.lock.core s.lock.op s.lock.part = some (slot1 s) := by
 rw [g176_eq]
 simp only [g144_eq, s156z _ hs, s125 _ hs, s129, Option.bind_some, zid_eqb, id_eta]
 have e : cop .eql s.lock.part 0 = decide (s.lock.part = 0) := rfl
 have e2 : ((cop .eql s.lock.core 0) && ((cop .eql s.lock.op 0) && ((cop .eql s.lock.part 0) && true))) = decide (s.lock = zid) := by
  rw [bool_iff, zid_eqb, id_eta, decide_eq_true_eq]
 simp only [e2]
 repeat' split
 all_goals (refine congrArg some ?_; rw [bool_iff]; simp only [slot1, opOk, CQ] at *; grind)
theorem slots_len (l : List Slot) : (l.map slotc).length = l.length := List.length_map _
theorem s143 (l : List Slot) (hl : l.length < 2 ^ 63) (a b c : Int) : ∃ r, g143 (l.map slotc) a b c = some (r, l.any (hitS ⟨a, b, c⟩)) := by
 rw [g143_eq, slots_len]
 have := scan_hit (F := fun k i => g143L0 k a b c (l.map slotc) (l.length : Int) i) (n := l.length) (miss := ((0 : Int), false)) (fun i => ((i : Int), true)) (atB (hitS ⟨a, b, c⟩) l) hl
  (fun k i hi => by
   show g143L0 (k + 1) _ _ _ _ _ _ = _
   rw [g143L0_eq, if_pos (lss_t hi)]
   refine (elem_slots hi _).trans ?_
   simp only [slotV, d2, d4, d8, d16]
   rw [g144_eq, Option.bind_some, inc_i hi hl, atB_at _ hi]
   generalize l[i] = t
   simp only [zid_eqb, id_eqb, id_eta, Bool.not_eq_true']
   unfold hitS
   by_cases h1 : t.node.id = zid
   ·rw [if_neg (by simp only [Bool.not_eq_false]; rw [zid_eqb]; exact h1), if_neg (by simp [h1])]
   ·rw [if_pos (by rw [← Bool.not_eq_true, zid_eqb]; exact h1)]
    by_cases h2 : t.node.id = ⟨a, b, c⟩
    ·rw [if_pos (by exact h2), if_pos (by simp [h1, h2]; exact fun h => h1 (h2.trans h))]
    ·rw [if_neg (by exact h2), if_neg (by simp [h1, h2])])
  (fun k i hi => by show g143L0 (k + 1) _ _ _ _ _ _ = _; rw [g143L0_eq, if_neg (lss_f hi)])
 rcases this with ⟨i, h1, h2, h3, h4⟩ | ⟨h1, h2⟩
 ·refine ⟨i, ?_⟩
  have e : l.any (hitS ⟨a, b, c⟩) = true := by
   rw [atB_at _ h1] at h2
   exact List.any_eq_true.2 ⟨l[i], List.getElem_mem h1, h2⟩
  rw [e]; exact h4
 ·refine ⟨0, ?_⟩
  have e : l.any (hitS ⟨a, b, c⟩) = false := by
   rw [List.any_eq_false]
   intro x hx
   obtain ⟨j, hj, rfl⟩ := List.getElem_of_mem hx
   have := h1 j hj
   rw [atB_at _ hj] at this
   rw [this]; exact Bool.false_ne_true
  rw [e]; exact h2
theorem s163 (l : List Slot) (hl : l.length < 2 ^ 63) (hp : ∀ s ∈ l, s.node.path.length < 2 ^ 63) : g163 (l.map slotc) = some (slotsOk l) := by
 rw [g163_eq, slots_len]
 unfold slotsOk
 refine ite_goal (fun h => ?_) fun h => ?_
 ·rw [decide_eq_false (by simp only [CQ] at h; omega), Bool.false_and]
 ·rw [decide_eq_true (by simp only [CQ] at h; omega), Bool.true_and]
  have := scan_all (F := fun k i => g163L0 k (l.map slotc) (l.map slotc) (l.length : Int) i) (n := l.length) (fin := some true) (bad := some false) (fun i => atB slot1 l i && uniqAt l i) hl 0 (by omega)
   (fun k i _ hi => by
    show g163L0 (k + 1) _ _ _ _ = _
    rw [g163L0_eq, if_pos (lss_t hi)]
    refine (elem_slots hi _).trans ?_
    simp only [slotV, d2, d4, d8, d16]
    obtain ⟨r, hr⟩ := s143 (l.take i) (by rw [List.length_take]; omega) l[i].node.id.core l[i].node.id.op l[i].node.id.part
    have hu : uniqAt l i = !((l.take i).any (hitS l[i].node.id)) := by unfold uniqAt; rw [List.getElem?_eq_getElem hi]
    rw [s176 _ (hp _ (List.getElem_mem hi)), Option.bind_some, reqK_pos (by omega), reqK_pos (by rw [slots_len]; omega), Int.toNat_natCast, ← List.map_take, hr, Option.bind_some, inc_i hi hl, atB_at _ hi, hu, id_eta]
    cases slot1 l[i] <;> cases (l.take i).any (hitS l[i].node.id) <;> rfl)
   (fun k i hi => by show g163L0 (k + 1) _ _ _ _ = _; rw [g163L0_eq, if_neg (lss_f hi)])
  refine this.trans ?_
  rw [Nat.sub_zero]
  cases (List.range' 0 l.length).all (fun i => atB slot1 l i && uniqAt l i) <;> rfl
end Go.Proofs.YthdihcchfjlgkaaGreat
end

section
namespace Go.Proofs.YthdihcchfjlgkaaGreat
open Go Go.AM
set_option linter.unusedSimpArgs false
set_option linter.unusedVariables false
set_option maxRecDepth 100000
theorem dec_i {j : Nat} (h : j + 1 < 2 ^ 63) : iop .sub .i64 ((j + 1 : Nat) : Int) 1 = (j : Int) := by
 rw [sub_i (by omega) (by omega)]; omega
def ltId (a b : Id) : Bool := idLt a.core a.op a.part b.core b.op b.part
theorem s25 (a b c d e f : Int) : g25 a b c d e f = some (idLt a b c d e f) := by
 rw [g25_eq]
 repeat' split
 all_goals (refine congrArg some ?_; rw [bool_iff]; simp only [idLt, CQ] at *; omega)
def markOk (m : Mark) : Bool := regOk m.region && opOk m.op
def ansOk (a : Ans) : Bool := decide (1 ≤ a.op ∧ a.op ≤ 1073741824) && errOk a.err
def entOk (e : Entry) : Bool := coreOk e.core && slotOk e.slot && nodeOk e.node
def ltp : Req → Req → Bool := fun a b => ltId a.id b.id
theorem s178 (x : Req) (hx : x.src.path.length < 2 ^ 63) : g178 x.id.core x.id.op x.id.part x.call.kind x.call.slot x.call.dest x.call.core x.call.mask x.call.object x.call.bits x.call.level x.call.offset x.call.count x.call.index x.call.addr x.region x.width x.src.id.core x.src.id.op x.src.id.part (idCells x.src.path) x.src.cap.kind x.src.cap.base x.src.cap.bits x.src.cap.rights x.src.cap.width x.src.cap.level x.src.cap.device = some (!reqOk x) := by
 rw [g178_eq, s120 x hx, Option.bind_some]
theorem s37c178 (l : List Req) (hl : l.length < 2 ^ 63) (hp : ∀ x ∈ l, x.src.path.length < 2 ^ 63) : ∃ r, g37c178 (l.map reqc) = some r ∧ cop .geq r 0 = !(l.all reqOk) := by
 rw [g37c178_eq, List.length_map]
 have := scan_idx (F := fun k i => g37c178L0 k (l.map reqc) (l.length : Int) i) (n := l.length) (fun i => !atB reqOk l i) hl
  (fun k i hi => by
   show g37c178L0 (k + 1) _ _ _ = _
   rw [g37c178L0_eq, if_pos (lss_t hi)]
   refine (elem_reqs hi _).trans ?_
   simp only [reqV, d2, d4, d8, d16]
   rw [s178 l[i] (hp _ (List.getElem_mem hi)), Option.bind_some, inc_i hi hl, atB_at _ hi])
  (fun k i hi => by show g37c178L0 (k + 1) _ _ _ = _; rw [g37c178L0_eq, if_neg (lss_f hi)])
 rw [any_at] at this
 exact this
theorem s177c178 (l : List Req) (hl : l.length < 2 ^ 63) (hp : ∀ x ∈ l, x.src.path.length < 2 ^ 63) : g177c178 (l.map reqc) = some (!(l.all reqOk)) := by
 obtain ⟨r, h1, h2⟩ := s37c178 l hl hp
 rw [g177c178_eq, h1, Option.bind_some, h2]
theorem s179 (l : List Req) {j : Nat} (hj : j + 1 < l.length) : g179 (j : Int) ((j + 1 : Nat) : Int) (l.map reqc) = some (ltp l[j] l[j + 1], l.map reqc) := by
 rw [g179_eq]
 refine (elem_reqs (show j < l.length by omega) _).trans ?_
 refine (elem_reqs hj _).trans ?_
 simp only [reqV, d2, d4, d8, d16]
 rw [s39, Option.bind_some]; rfl
theorem s132c179 (l : List Req) (hl : l.length < 2 ^ 63) : g132c179 (l.length : Int) (l.map reqc) = some (ascB ltp l, l.map reqc) := by
 rw [g132c179_eq]
 have := scan_all (F := fun k i => g132c179L0 k (l.length : Int) i (l.map reqc)) (n := l.length) (fin := some (true, l.map reqc)) (bad := some (false, l.map reqc)) (prevB ltp l) hl 1 (by omega)
  (fun k i h1 hi => by
   obtain ⟨j, rfl⟩ : ∃ j, i = j + 1 := ⟨i - 1, by omega⟩
   show g132c179L0 (k + 1) _ _ _ = _
   rw [g132c179L0_eq, if_pos (lss_t hi), dec_i (by omega), s179 l hi, Option.bind_some, inc_i hi hl, prev_at _ hi]
   cases ltp l[j] l[j + 1] <;> rfl)
  (fun k i hi => by show g132c179L0 (k + 1) _ _ _ = _; rw [g132c179L0_eq, if_neg (lss_f hi)])
 rw [asc1] at this
 refine Eq.trans this ?_
 cases ascB ltp l <;> rfl
theorem s164 (l : List Req) (hl : l.length < 2 ^ 63) (hp : ∀ x ∈ l, x.src.path.length < 2 ^ 63) : g164 (l.map reqc) = some (l.all reqOk && ascB ltp l) := by
 rw [g164_eq, s177c178 l hl hp, Option.bind_some, List.length_map, s132c179 l hl, Option.bind_some]
 cases l.all reqOk <;> rfl
def ltm : Mark → Mark → Bool := fun a b => decide (a.region < b.region)
theorem s181 (x : Mark) : g181 x.region x.op.core x.op.op x.op.part = some (!markOk x) := by
 rw [g181_eq]
 simp only [s119, s121, Option.bind_some]
 repeat' split
 all_goals (refine congrArg some ?_; rw [bool_iff]; simp only [markOk, CQ] at * <;> grind)
theorem s189c181 (l : List Mark) (hl : l.length < 2 ^ 63) : ∃ r, g189c181 (l.map markc) = some r ∧ cop .geq r 0 = !(l.all markOk) := by
 rw [g189c181_eq, List.length_map]
 have := scan_idx (F := fun k i => g189c181L0 k (l.map markc) (l.length : Int) i) (n := l.length) (fun i => !atB markOk l i) hl
  (fun k i hi => by
   show g189c181L0 (k + 1) _ _ _ = _
   rw [g189c181L0_eq, if_pos (lss_t hi)]
   refine (elem_marks hi _).trans ?_
   simp only [d2, d4, d8, d16]
   rw [s181 l[i], Option.bind_some, inc_i hi hl, atB_at _ hi])
  (fun k i hi => by show g189c181L0 (k + 1) _ _ _ = _; rw [g189c181L0_eq, if_neg (lss_f hi)])
 rw [any_at] at this
 exact this
theorem s180c181 (l : List Mark) (hl : l.length < 2 ^ 63) : g180c181 (l.map markc) = some (!(l.all markOk)) := by
 obtain ⟨r, h1, h2⟩ := s189c181 l hl
 rw [g180c181_eq, h1, Option.bind_some, h2]
theorem s182 (l : List Mark) {j : Nat} (hj : j + 1 < l.length) : g182 (j : Int) ((j + 1 : Nat) : Int) (l.map markc) = some (ltm l[j] l[j + 1], l.map markc) := by
 rw [g182_eq]
 refine (elem_marks (show j < l.length by omega) _).trans ?_
 refine (elem_marks hj _).trans ?_
 simp only [d2, d4, d8, d16]
 rfl
theorem s132c182 (l : List Mark) (hl : l.length < 2 ^ 63) : g132c182 (l.length : Int) (l.map markc) = some (ascB ltm l, l.map markc) := by
 rw [g132c182_eq]
 have := scan_all (F := fun k i => g132c182L0 k (l.length : Int) i (l.map markc)) (n := l.length) (fin := some (true, l.map markc)) (bad := some (false, l.map markc)) (prevB ltm l) hl 1 (by omega)
  (fun k i h1 hi => by
   obtain ⟨j, rfl⟩ : ∃ j, i = j + 1 := ⟨i - 1, by omega⟩
   show g132c182L0 (k + 1) _ _ _ = _
   rw [g132c182L0_eq, if_pos (lss_t hi), dec_i (by omega), s182 l hi, Option.bind_some, inc_i hi hl, prev_at _ hi]
   cases ltm l[j] l[j + 1] <;> rfl)
  (fun k i hi => by show g132c182L0 (k + 1) _ _ _ = _; rw [g132c182L0_eq, if_neg (lss_f hi)])
 rw [asc1] at this
 refine Eq.trans this ?_
 cases ascB ltm l <;> rfl
theorem s165 (l : List Mark) (hl : l.length < 2 ^ 63) : g165 (l.map markc) = some (l.all markOk && ascB ltm l) := by
 rw [g165_eq, s180c181 l hl, Option.bind_some, List.length_map, s132c182 l hl, Option.bind_some]
 cases l.all markOk <;> rfl
def lta : Ans → Ans → Bool := fun a b => decide (a.op < b.op)
theorem s184 (x : Ans) : g184 x.op x.err = some (!ansOk x) := by
 rw [g184_eq]
 simp only [s122, Option.bind_some]
 repeat' split
 all_goals (refine congrArg some ?_; rw [bool_iff]; simp only [ansOk, CQ] at * <;> grind)
theorem s190c184 (l : List Ans) (hl : l.length < 2 ^ 63) : ∃ r, g190c184 (l.map ansc) = some r ∧ cop .geq r 0 = !(l.all ansOk) := by
 rw [g190c184_eq, List.length_map]
 have := scan_idx (F := fun k i => g190c184L0 k (l.map ansc) (l.length : Int) i) (n := l.length) (fun i => !atB ansOk l i) hl
  (fun k i hi => by
   show g190c184L0 (k + 1) _ _ _ = _
   rw [g190c184L0_eq, if_pos (lss_t hi)]
   refine (elem_anss hi _).trans ?_
   simp only [d2, d4, d8, d16]
   rw [s184 l[i], Option.bind_some, inc_i hi hl, atB_at _ hi])
  (fun k i hi => by show g190c184L0 (k + 1) _ _ _ = _; rw [g190c184L0_eq, if_neg (lss_f hi)])
 rw [any_at] at this
 exact this
theorem s183c184 (l : List Ans) (hl : l.length < 2 ^ 63) : g183c184 (l.map ansc) = some (!(l.all ansOk)) := by
 obtain ⟨r, h1, h2⟩ := s190c184 l hl
 rw [g183c184_eq, h1, Option.bind_some, h2]
theorem s185 (l : List Ans) {j : Nat} (hj : j + 1 < l.length) : g185 (j : Int) ((j + 1 : Nat) : Int) (l.map ansc) = some (lta l[j] l[j + 1], l.map ansc) := by
 rw [g185_eq]
 refine (elem_anss (show j < l.length by omega) _).trans ?_
 refine (elem_anss hj _).trans ?_
 simp only [d2, d4, d8, d16]
 rfl
theorem s132c185 (l : List Ans) (hl : l.length < 2 ^ 63) : g132c185 (l.length : Int) (l.map ansc) = some (ascB lta l, l.map ansc) := by
 rw [g132c185_eq]
 have := scan_all (F := fun k i => g132c185L0 k (l.length : Int) i (l.map ansc)) (n := l.length) (fin := some (true, l.map ansc)) (bad := some (false, l.map ansc)) (prevB lta l) hl 1 (by omega)
  (fun k i h1 hi => by
   obtain ⟨j, rfl⟩ : ∃ j, i = j + 1 := ⟨i - 1, by omega⟩
   show g132c185L0 (k + 1) _ _ _ = _
   rw [g132c185L0_eq, if_pos (lss_t hi), dec_i (by omega), s185 l hi, Option.bind_some, inc_i hi hl, prev_at _ hi]
   cases lta l[j] l[j + 1] <;> rfl)
  (fun k i hi => by show g132c185L0 (k + 1) _ _ _ = _; rw [g132c185L0_eq, if_neg (lss_f hi)])
 rw [asc1] at this
 refine Eq.trans this ?_
 cases ascB lta l <;> rfl
theorem s166 (l : List Ans) (hl : l.length < 2 ^ 63) : g166 (l.map ansc) = some (l.all ansOk && ascB lta l) := by
 rw [g166_eq, s183c184 l hl, Option.bind_some, List.length_map, s132c185 l hl, Option.bind_some]
 cases l.all ansOk <;> rfl
def lte : Entry → Entry → Bool := fun a b => ltId a.node.id b.node.id
theorem s187 (x : Entry) (hx : x.node.path.length < 2 ^ 63) : g187 x.core x.slot x.node.id.core x.node.id.op x.node.id.part (idCells x.node.path) x.node.cap.kind x.node.cap.base x.node.cap.bits x.node.cap.rights x.node.cap.width x.node.cap.level x.node.cap.device = some (!entOk x) := by
 rw [g187_eq]
 simp only [s77, s126, s125 _ hx, Option.bind_some]
 repeat' split
 all_goals (refine congrArg some ?_; rw [bool_iff]; simp only [entOk, CQ] at * <;> grind)
theorem s191c187 (l : List Entry) (hl : l.length < 2 ^ 63) (hp : ∀ x ∈ l, x.node.path.length < 2 ^ 63) : ∃ r, g191c187 (l.map entryc) = some r ∧ cop .geq r 0 = !(l.all entOk) := by
 rw [g191c187_eq, List.length_map]
 have := scan_idx (F := fun k i => g191c187L0 k (l.map entryc) (l.length : Int) i) (n := l.length) (fun i => !atB entOk l i) hl
  (fun k i hi => by
   show g191c187L0 (k + 1) _ _ _ = _
   rw [g191c187L0_eq, if_pos (lss_t hi)]
   refine (elem_entries hi _).trans ?_
   simp only [entryV, d2, d4, d8, d16]
   rw [s187 l[i] (hp _ (List.getElem_mem hi)), Option.bind_some, inc_i hi hl, atB_at _ hi])
  (fun k i hi => by show g191c187L0 (k + 1) _ _ _ = _; rw [g191c187L0_eq, if_neg (lss_f hi)])
 rw [any_at] at this
 exact this
theorem s186c187 (l : List Entry) (hl : l.length < 2 ^ 63) (hp : ∀ x ∈ l, x.node.path.length < 2 ^ 63) : g186c187 (l.map entryc) = some (!(l.all entOk)) := by
 obtain ⟨r, h1, h2⟩ := s191c187 l hl hp
 rw [g186c187_eq, h1, Option.bind_some, h2]
theorem s188 (l : List Entry) {j : Nat} (hj : j + 1 < l.length) : g188 (j : Int) ((j + 1 : Nat) : Int) (l.map entryc) = some (lte l[j] l[j + 1], l.map entryc) := by
 rw [g188_eq]
 refine (elem_entries (show j < l.length by omega) _).trans ?_
 refine (elem_entries hj _).trans ?_
 simp only [entryV, d2, d4, d8, d16]
 rw [s39, Option.bind_some]; rfl
theorem s132c188 (l : List Entry) (hl : l.length < 2 ^ 63) : g132c188 (l.length : Int) (l.map entryc) = some (ascB lte l, l.map entryc) := by
 rw [g132c188_eq]
 have := scan_all (F := fun k i => g132c188L0 k (l.length : Int) i (l.map entryc)) (n := l.length) (fin := some (true, l.map entryc)) (bad := some (false, l.map entryc)) (prevB lte l) hl 1 (by omega)
  (fun k i h1 hi => by
   obtain ⟨j, rfl⟩ : ∃ j, i = j + 1 := ⟨i - 1, by omega⟩
   show g132c188L0 (k + 1) _ _ _ = _
   rw [g132c188L0_eq, if_pos (lss_t hi), dec_i (by omega), s188 l hi, Option.bind_some, inc_i hi hl, prev_at _ hi]
   cases lte l[j] l[j + 1] <;> rfl)
  (fun k i hi => by show g132c188L0 (k + 1) _ _ _ = _; rw [g132c188L0_eq, if_neg (lss_f hi)])
 rw [asc1] at this
 refine Eq.trans this ?_
 cases ascB lte l <;> rfl
theorem s167 (l : List Entry) (hl : l.length < 2 ^ 63) (hp : ∀ x ∈ l, x.node.path.length < 2 ^ 63) : g167 (l.map entryc) = some (l.all entOk && ascB lte l) := by
 rw [g167_eq, s186c187 l hl hp, Option.bind_some, List.length_map, s132c188 l hl, Option.bind_some]
 cases l.all entOk <;> rfl
theorem s168 (x : Id) : g168 x.core x.op x.part = some (!opOk x) := by
 rw [g168_eq, s121, Option.bind_some]
theorem s160c168 (l : List Id) (hl : l.length < 2 ^ 63) : ∃ r, g160c168 (idCells l) = some r ∧ cop .geq r 0 = !(l.all opOk) := by
 rw [g160c168_eq, ids_len]
 have := scan_idx (F := fun k i => g160c168L0 k (idCells l) (l.length : Int) i) (n := l.length) (fun i => !atB opOk l i) hl
  (fun k i hi => by
   show g160c168L0 (k + 1) _ _ _ = _
   rw [g160c168L0_eq, if_pos (lss_t hi)]
   refine (elem_ids hi _).trans ?_
   dsimp only
   rw [s168 l[i], Option.bind_some, inc_i hi hl, atB_at _ hi])
  (fun k i hi => by show g160c168L0 (k + 1) _ _ _ = _; rw [g160c168L0_eq, if_neg (lss_f hi)])
 rw [any_at] at this
 exact this
theorem s127c168 (l : List Id) (hl : l.length < 2 ^ 63) : g127c168 (idCells l) = some (!(l.all opOk)) := by
 obtain ⟨r, h1, h2⟩ := s160c168 l hl
 rw [g127c168_eq, h1, Option.bind_some, h2]
def stateOk (s : State) : Bool := slotsOk s.slots && (s.pending.all reqOk && ascB ltp s.pending) && (s.marks.all markOk && ascB ltm s.marks) && (s.answers.all ansOk && ascB lta s.answers) && (s.entries.all entOk && ascB lte s.entries) && s.commits.all opOk
structure State.Fits (s : State) : Prop where
 slots : s.slots.length < 2 ^ 63
 pending : s.pending.length < 2 ^ 63
 marks : s.marks.length < 2 ^ 63
 answers : s.answers.length < 2 ^ 63
 entries : s.entries.length < 2 ^ 63
 commits : s.commits.length < 2 ^ 63
 slot : ∀ x ∈ s.slots, x.node.path.length < 2 ^ 63
 req : ∀ x ∈ s.pending, x.src.path.length < 2 ^ 63
 entry : ∀ x ∈ s.entries, x.node.path.length < 2 ^ 63
theorem s136 (s : State) (h : s.Fits) : g136 (s.slots.map slotc) (s.pending.map reqc) (s.marks.map markc) (s.answers.map ansc) (s.entries.map entryc) (idCells s.commits) = some (stateOk s) := by
 rw [g136_eq, s163 _ h.slots h.slot, Option.bind_some, s164 _ h.pending h.req, Option.bind_some, s165 _ h.marks, Option.bind_some, s166 _ h.answers, Option.bind_some, s167 _ h.entries h.entry, Option.bind_some, s127c168 _ h.commits, Option.bind_some]
 unfold stateOk
 cases slotsOk s.slots <;> cases (s.pending.all reqOk && ascB ltp s.pending) <;> cases (s.marks.all markOk && ascB ltm s.marks) <;> cases (s.answers.all ansOk && ascB lta s.answers) <;> cases (s.entries.all entOk && ascB lte s.entries) <;> cases s.commits.all opOk <;> rfl
end Go.Proofs.YthdihcchfjlgkaaGreat
end

section
namespace Go.Proofs.YthdihcchfjlgkaaGreat
open Go Go.AM
set_option linter.unusedSimpArgs false
set_option linter.unusedVariables false
set_option maxRecDepth 100000
theorem le63 {n : Nat} (h : n ≤ maxLen) : n < 2 ^ 63 := by
 have : maxLen + 1 = 2 ^ 63 := by decide
 omega
def statec (s : State) : List AV := [.slice false 15 (s.slots.map slotc), .slice false 28 (s.pending.map reqc), .slice false 4 (s.marks.map markc), .slice false 2 (s.answers.map ansc), .slice false 13 (s.entries.map entryc), .slice false 3 (idCells s.commits)]
end Go.Proofs.YthdihcchfjlgkaaGreat
end

section
namespace Go.Proofs.YthdihcchfjlgkaaGreat
open Go Go.AM
set_option linter.unusedSimpArgs false
set_option linter.unusedVariables false
set_option maxRecDepth 100000
theorem ints_len (l : List Int) : (intCells l).length = l.length := by simp [intCells]
theorem ints_take (l : List Int) (n : Nat) : (intCells l).take n = intCells (l.take n) := by simp [intCells, List.map_take]
def numOk (z : Int) : Bool := decide (0 ≤ z ∧ z ≤ 1073741824)
def moveOk (m : Move) : Bool := regOk m.region && coreOk m.to
theorem s76 (z : Int) : g76 z = some (numOk z) := by
 rw [g76_eq]
 repeat' split
 all_goals (refine congrArg some ?_; rw [bool_iff]; simp only [numOk, CQ] at *; omega)
theorem s124 (x : Node) (hx : x.path.length < 2 ^ 63) : g124 x.id.core x.id.op x.id.part (idCells x.path) x.cap.kind x.cap.base x.cap.bits x.cap.rights x.cap.width x.cap.level x.cap.device = some (!nodeOk x) := by
 rw [g124_eq, s125 x hx, Option.bind_some]
theorem s157c124 (l : List Node) (hl : l.length < 2 ^ 63) (hp : ∀ x ∈ l, x.path.length < 2 ^ 63) : ∃ r, g157c124 (l.map nodec) = some r ∧ cop .geq r 0 = !(l.all nodeOk) := by
 rw [g157c124_eq, List.length_map]
 have := scan_idx (F := fun k i => g157c124L0 k (l.map nodec) (l.length : Int) i) (n := l.length) (fun i => !atB nodeOk l i) hl
  (fun k i hi => by
   show g157c124L0 (k + 1) _ _ _ = _
   rw [g157c124L0_eq, if_pos (lss_t hi)]
   refine (elem_nodes hi _).trans ?_
   simp only [nodeV, d2, d4, d8, d16]
   rw [s124 l[i] (hp _ (List.getElem_mem hi)), Option.bind_some, inc_i hi hl, atB_at _ hi])
  (fun k i hi => by show g157c124L0 (k + 1) _ _ _ = _; rw [g157c124L0_eq, if_neg (lss_f hi)])
 rw [any_at] at this
 exact this
theorem s123c124 (l : List Node) (hl : l.length < 2 ^ 63) (hp : ∀ x ∈ l, x.path.length < 2 ^ 63) : g123c124 (l.map nodec) = some (!(l.all nodeOk)) := by
 obtain ⟨r, h1, h2⟩ := s157c124 l hl hp
 rw [g123c124_eq, h1, Option.bind_some, h2]
theorem s128 (x : Id) : g128 x.core x.op x.part = some (!idOk x) := by
 rw [g128_eq, s129, Option.bind_some, id_eta]
theorem s160c128 (l : List Id) (hl : l.length < 2 ^ 63) : ∃ r, g160c128 (idCells l) = some r ∧ cop .geq r 0 = !(l.all idOk) := by
 rw [g160c128_eq, ids_len]
 have := scan_idx (F := fun k i => g160c128L0 k (idCells l) (l.length : Int) i) (n := l.length) (fun i => !atB idOk l i) hl
  (fun k i hi => by
   show g160c128L0 (k + 1) _ _ _ = _
   rw [g160c128L0_eq, if_pos (lss_t hi)]
   refine (elem_ids hi _).trans ?_
   dsimp only
   rw [s128 l[i], Option.bind_some, inc_i hi hl, atB_at _ hi])
  (fun k i hi => by show g160c128L0 (k + 1) _ _ _ = _; rw [g160c128L0_eq, if_neg (lss_f hi)])
 rw [any_at] at this
 exact this
theorem s127c128 (l : List Id) (hl : l.length < 2 ^ 63) : g127c128 (idCells l) = some (!(l.all idOk)) := by
 obtain ⟨r, h1, h2⟩ := s160c128 l hl
 rw [g127c128_eq, h1, Option.bind_some, h2]
theorem s131 (x : Int) : g131 x = some (!coreOk x) := by
 rw [g131_eq, s77, Option.bind_some]
theorem s161c131 (l : List Int) (hl : l.length < 2 ^ 63) : ∃ r, g161c131 (intCells l) = some r ∧ cop .geq r 0 = !(l.all coreOk) := by
 rw [g161c131_eq, ints_len]
 have := scan_idx (F := fun k i => g161c131L0 k (intCells l) (l.length : Int) i) (n := l.length) (fun i => !atB coreOk l i) hl
  (fun k i hi => by
   show g161c131L0 (k + 1) _ _ _ = _
   rw [g161c131L0_eq, if_pos (lss_t hi)]
   refine (elem_ints hi _).trans ?_
   skip
   rw [s131 l[i], Option.bind_some, inc_i hi hl, atB_at _ hi])
  (fun k i hi => by show g161c131L0 (k + 1) _ _ _ = _; rw [g161c131L0_eq, if_neg (lss_f hi)])
 rw [any_at] at this
 exact this
theorem s130c131 (l : List Int) (hl : l.length < 2 ^ 63) : g130c131 (intCells l) = some (!(l.all coreOk)) := by
 obtain ⟨r, h1, h2⟩ := s161c131 l hl
 rw [g130c131_eq, h1, Option.bind_some, h2]
theorem s162 (x : Int) : g162 x = some (!coreOk x) := by
 rw [g162_eq, s77, Option.bind_some]
theorem s161c162 (l : List Int) (hl : l.length < 2 ^ 63) : ∃ r, g161c162 (intCells l) = some r ∧ cop .geq r 0 = !(l.all coreOk) := by
 rw [g161c162_eq, ints_len]
 have := scan_idx (F := fun k i => g161c162L0 k (intCells l) (l.length : Int) i) (n := l.length) (fun i => !atB coreOk l i) hl
  (fun k i hi => by
   show g161c162L0 (k + 1) _ _ _ = _
   rw [g161c162L0_eq, if_pos (lss_t hi)]
   refine (elem_ints hi _).trans ?_
   skip
   rw [s162 l[i], Option.bind_some, inc_i hi hl, atB_at _ hi])
  (fun k i hi => by show g161c162L0 (k + 1) _ _ _ = _; rw [g161c162L0_eq, if_neg (lss_f hi)])
 rw [any_at] at this
 exact this
theorem s130c162 (l : List Int) (hl : l.length < 2 ^ 63) : g130c162 (intCells l) = some (!(l.all coreOk)) := by
 obtain ⟨r, h1, h2⟩ := s161c162 l hl
 rw [g130c162_eq, h1, Option.bind_some, h2]
theorem s138 (x : Move) : g138 x.region x.to = some (!moveOk x) := by
 rw [g138_eq, s119, s77, Option.bind_some, Option.bind_some]
 unfold moveOk
 cases regOk x.region <;> rfl
theorem s169c138 (l : List Move) (hl : l.length < 2 ^ 63) : ∃ r, g169c138 (l.map movec) = some r ∧ cop .geq r 0 = !(l.all moveOk) := by
 rw [g169c138_eq, List.length_map]
 have := scan_idx (F := fun k i => g169c138L0 k (l.map movec) (l.length : Int) i) (n := l.length) (fun i => !atB moveOk l i) hl
  (fun k i hi => by
   show g169c138L0 (k + 1) _ _ _ = _
   rw [g169c138L0_eq, if_pos (lss_t hi)]
   refine (elem_moves hi _).trans ?_
   dsimp only
   rw [s138 l[i], Option.bind_some, inc_i hi hl, atB_at _ hi])
  (fun k i hi => by show g169c138L0 (k + 1) _ _ _ = _; rw [g169c138L0_eq, if_neg (lss_f hi)])
 rw [any_at] at this
 exact this
theorem s137c138 (l : List Move) (hl : l.length < 2 ^ 63) : g137c138 (l.map movec) = some (!(l.all moveOk)) := by
 obtain ⟨r, h1, h2⟩ := s169c138 l hl
 rw [g137c138_eq, h1, Option.bind_some, h2]
def ltI (a b : Int) : Bool := decide (a < b)
def coresOk (l : List Int) : Bool := l.all coreOk && ascB ltI l
theorem s115 (l : List Int) (hl : l.length < 2 ^ 63) (a : Int) : ∃ r, g115 (intCells l) a = some r ∧ cop .geq r 0 = l.any (fun x => decide (a = x)) := by
 rw [g115_eq, ints_len]
 have := scan_idx (F := fun k i => g115L0 k (intCells l) a (l.length : Int) i) (n := l.length) (fun i => !atB (fun x => !decide (a = x)) l i) hl
  (fun k i hi => by
   show g115L0 (k + 1) _ _ _ _ = _
   rw [g115L0_eq, if_pos (lss_t hi)]
   refine (elem_ints hi _).trans ?_
   rw [inc_i hi hl, atB_at _ hi, Bool.not_not]
   rfl)
  (fun k i hi => by show g115L0 (k + 1) _ _ _ _ = _; rw [g115L0_eq, if_neg (lss_f hi)])
 rw [any_at] at this
 have e : (!(l.all fun x => !decide (a = x))) = l.any (fun x => decide (a = x)) := by
  rw [List.any_eq_not_all_not]
 rw [e] at this
 exact this
theorem s67 (l : List Int) (hl : l.length < 2 ^ 63) (a : Int) : g67 (intCells l) a = some (l.any (fun x => decide (a = x))) := by
 obtain ⟨r, h1, h2⟩ := s115 l hl a
 rw [g67_eq, h1, Option.bind_some, h2]
def newAt (l : List Int) (i : Nat) : Bool := match l[i]? with | some x => !((l.take i).any (fun y => decide (x = y))) | none => true
def viewOk (v : View) : Bool := numOk v.number && decide (v.members.length ≤ 32) && decide (v.owners.length ≤ 16) && (List.range' 0 v.members.length).all (fun i => atB coreOk v.members i && newAt v.members i) && v.owners.all coreOk
theorem new_at {l : List Int} {i : Nat} (hi : i < l.length) : newAt l i = !((l.take i).any (fun y => decide (l[i] = y))) := by
 unfold newAt; rw [List.getElem?_eq_getElem hi]
theorem s135 (v : View) (h1 : v.members.length < 2 ^ 63) (h2 : v.owners.length < 2 ^ 63) : g135 v.number (intCells v.members) (intCells v.owners) = some (viewOk v) := by
 rw [g135_eq, ints_len, ints_len, s76, Option.bind_some]
 have := scan_all (F := fun k i => g135L0 k v.number (intCells v.members) (intCells v.owners) (intCells v.members) (v.members.length : Int) i) (n := v.members.length) (fin := some (v.owners.all coreOk)) (bad := some false) (fun i => atB coreOk v.members i && newAt v.members i) h1 0 (by omega)
  (fun k i _ hi => by
   show g135L0 (k + 1) _ _ _ _ _ _ = _
   rw [g135L0_eq, if_pos (lss_t hi)]
   refine (elem_ints hi _).trans ?_
   rw [s77, Option.bind_some, reqK_pos (by omega), reqK_pos (by rw [ints_len]; omega), Int.toNat_natCast, ints_take, s67 _ (by rw [List.length_take]; omega), Option.bind_some, inc_i hi h1, atB_at _ hi, new_at hi]
   cases coreOk v.members[i] <;> cases (v.members.take i).any (fun y => decide (v.members[i] = y)) <;> rfl)
  (fun k i hi => by
   show g135L0 (k + 1) _ _ _ _ _ _ = _
   rw [g135L0_eq, if_neg (lss_f hi), s130c162 _ h2, Option.bind_some, Bool.not_not])
 rw [Nat.sub_zero] at this
 have this : g135L0 FUEL v.number (intCells v.members) (intCells v.owners) (intCells v.members) (v.members.length : Int) 0 = _ := this
 rw [this]
 unfold viewOk
 by_cases a1 : v.members.length ≤ 32
 ·by_cases a2 : v.owners.length ≤ 16
  ·rw [if_neg (show ¬ (cop .gtr (v.members.length : Int) 32) = true by simp only [CQ]; omega), if_neg (show ¬ (cop .gtr (v.owners.length : Int) 16) = true by simp only [CQ]; omega), decide_eq_true a1, decide_eq_true a2]
   cases numOk v.number <;> cases (List.range' 0 v.members.length).all (fun i => atB coreOk v.members i && newAt v.members i) <;> rfl
  ·rw [if_neg (show ¬ (cop .gtr (v.members.length : Int) 32) = true by simp only [CQ]; omega), if_pos (show (cop .gtr (v.owners.length : Int) 16) = true by simp only [CQ]; omega), decide_eq_false a2]
   cases numOk v.number <;> simp
 ·rw [if_pos (show (cop .gtr (v.members.length : Int) 32) = true by simp only [CQ]; omega), decide_eq_false a1]
  cases numOk v.number <;> simp
structure View.Fits (v : View) : Prop where
 members : v.members.length < 2 ^ 63
 owners : v.owners.length < 2 ^ 63
structure Report.Fits (r : Report) : Prop where
 view : r.view.Fits
 state : r.state.Fits
 next : r.next.Fits
 proposal : r.proposal.Fits
def repOk (r : Report) : Bool := coreOk r.core && viewOk r.view && stateOk r.state && viewOk r.next && stateOk r.proposal
theorem s134 (r : Report) (h : r.Fits) : g134 r.core r.view.number (intCells r.view.members) (intCells r.view.owners) (r.state.slots.map slotc) (r.state.pending.map reqc) (r.state.marks.map markc) (r.state.answers.map ansc) (r.state.entries.map entryc) (idCells r.state.commits) r.ready r.next.number (intCells r.next.members) (intCells r.next.owners) (r.proposal.slots.map slotc) (r.proposal.pending.map reqc) (r.proposal.marks.map markc) (r.proposal.answers.map ansc) (r.proposal.entries.map entryc) (idCells r.proposal.commits) = some (repOk r) := by
 rw [g134_eq, s77, Option.bind_some, s135 _ h.view.members h.view.owners, Option.bind_some, s136 _ h.state, Option.bind_some, s135 _ h.next.members h.next.owners, Option.bind_some, s136 _ h.proposal, Option.bind_some]
 unfold repOk
 cases coreOk r.core <;> cases viewOk r.view <;> cases stateOk r.state <;> cases viewOk r.next <;> cases stateOk r.proposal <;> rfl
end Go.Proofs.YthdihcchfjlgkaaGreat
end

section
namespace Go.Proofs.YthdihcchfjlgkaaGreat
open Go Go.AM
set_option linter.unusedSimpArgs false
set_option linter.unusedVariables false
set_option maxRecDepth 100000
structure Msg where
 kind : Int
 view : Int
 frm : Int
 to : Int
 round : Int
 region : Int
 slot : Int
 op : Id
 err : Int
 settled : Bool
 req : Req
 ids : List Id
 nodes : List Node
 cores : List Int
 moves : List Move
 base : Int
 next : View
 state : State
 report : Report
structure Msg.Fits (m : Msg) : Prop where
 req : m.req.src.path.length < 2 ^ 63
 ids : m.ids.length < 2 ^ 63
 nodes : m.nodes.length < 2 ^ 63
 node : ∀ x ∈ m.nodes, x.path.length < 2 ^ 63
 cores : m.cores.length < 2 ^ 63
 moves : m.moves.length < 2 ^ 63
 next : m.next.Fits
 state : m.state.Fits
 report : m.report.Fits
def msgT (m : Msg) : Qt2 := (m.kind, m.view, m.frm, m.to, m.round, m.region, m.slot, m.op.core, m.op.op, m.op.part, m.err, m.settled, m.req.id.core, m.req.id.op, m.req.id.part, m.req.call.kind, m.req.call.slot, m.req.call.dest, m.req.call.core, m.req.call.mask, m.req.call.object, m.req.call.bits, m.req.call.level, m.req.call.offset, m.req.call.count, m.req.call.index, m.req.call.addr, m.req.region, m.req.width, m.req.src.id.core, m.req.src.id.op, m.req.src.id.part, (idCells m.req.src.path), m.req.src.cap.kind, m.req.src.cap.base, m.req.src.cap.bits, m.req.src.cap.rights, m.req.src.cap.width, m.req.src.cap.level, m.req.src.cap.device, (idCells m.ids), (m.nodes.map nodec), (intCells m.cores), (m.moves.map movec), m.base, m.next.number, (intCells m.next.members), (intCells m.next.owners), (m.state.slots.map slotc), (m.state.pending.map reqc), (m.state.marks.map markc), (m.state.answers.map ansc), (m.state.entries.map entryc), (idCells m.state.commits), m.report.core, m.report.view.number, (intCells m.report.view.members), (intCells m.report.view.owners), (m.report.state.slots.map slotc), (m.report.state.pending.map reqc), (m.report.state.marks.map markc), (m.report.state.answers.map ansc), (m.report.state.entries.map entryc), (idCells m.report.state.commits), m.report.ready, m.report.next.number, (intCells m.report.next.members), (intCells m.report.next.owners), (m.report.proposal.slots.map slotc), (m.report.proposal.pending.map reqc), (m.report.proposal.marks.map markc), (m.report.proposal.answers.map ansc), (m.report.proposal.entries.map entryc), (idCells m.report.proposal.commits))
def noCall : Call := ⟨0, 0, 0, 0, 0, 0, 0, 0, 0, 0, 0, 0⟩
def noReq : Req := ⟨zid, noCall, 0, 0, noNode⟩
def noView : View := ⟨0, [], []⟩
def noState : State := ⟨[], [], [], [], [], []⟩
def noReport : Report := ⟨0, noView, noState, false, noView, noState⟩
def clr (m : Msg) : Nat → Msg
 | 0 => { m with region := 0 }
 | 1 => { m with req := noReq }
 | 2 => { m with op := zid }
 | 3 => { m with err := 0 }
 | 4 => { m with settled := false }
 | 5 => { m with nodes := [] }
 | 6 => { m with slot := 0 }
 | 7 => { m with ids := [] }
 | 8 => { m with round := 0 }
 | 9 => { m with cores := [] }
 | 10 => { m with report := noReport }
 | 11 => { m with base := 0 }
 | 12 => { m with next := noView }
 | 13 => { m with state := noState }
 | 14 => { m with moves := [] }
 | _ => m
theorem s79 (m : Msg) : ∀ f : Nat, f < 15 → g79 m.kind m.view m.frm m.to m.round m.region m.slot m.op.core m.op.op m.op.part m.err m.settled m.req.id.core m.req.id.op m.req.id.part m.req.call.kind m.req.call.slot m.req.call.dest m.req.call.core m.req.call.mask m.req.call.object m.req.call.bits m.req.call.level m.req.call.offset m.req.call.count m.req.call.index m.req.call.addr m.req.region m.req.width m.req.src.id.core m.req.src.id.op m.req.src.id.part (idCells m.req.src.path) m.req.src.cap.kind m.req.src.cap.base m.req.src.cap.bits m.req.src.cap.rights m.req.src.cap.width m.req.src.cap.level m.req.src.cap.device (idCells m.ids) (m.nodes.map nodec) (intCells m.cores) (m.moves.map movec) m.base m.next.number (intCells m.next.members) (intCells m.next.owners) (m.state.slots.map slotc) (m.state.pending.map reqc) (m.state.marks.map markc) (m.state.answers.map ansc) (m.state.entries.map entryc) (idCells m.state.commits) m.report.core m.report.view.number (intCells m.report.view.members) (intCells m.report.view.owners) (m.report.state.slots.map slotc) (m.report.state.pending.map reqc) (m.report.state.marks.map markc) (m.report.state.answers.map ansc) (m.report.state.entries.map entryc) (idCells m.report.state.commits) m.report.ready m.report.next.number (intCells m.report.next.members) (intCells m.report.next.owners) (m.report.proposal.slots.map slotc) (m.report.proposal.pending.map reqc) (m.report.proposal.marks.map markc) (m.report.proposal.answers.map ansc) (m.report.proposal.entries.map entryc) (idCells m.report.proposal.commits) (f : Int) = some (msgT (clr m f))
 | 0, _ => by rw [g79_eq]; rfl
 | 1, _ => by rw [g79_eq]; rfl
 | 2, _ => by rw [g79_eq]; rfl
 | 3, _ => by rw [g79_eq]; rfl
 | 4, _ => by rw [g79_eq]; rfl
 | 5, _ => by rw [g79_eq]; rfl
 | 6, _ => by rw [g79_eq]; rfl
 | 7, _ => by rw [g79_eq]; rfl
 | 8, _ => by rw [g79_eq]; rfl
 | 9, _ => by rw [g79_eq]; rfl
 | 10, _ => by rw [g79_eq]; rfl
 | 11, _ => by rw [g79_eq]; rfl
 | 12, _ => by rw [g79_eq]; rfl
 | 13, _ => by rw [g79_eq]; rfl
 | 14, _ => by rw [g79_eq]; rfl
theorem s133 (m : Msg) {j : Nat} (hj : j + 1 < m.cores.length) : g133 (j : Int) ((j + 1 : Nat) : Int) m.kind m.view m.frm m.to m.round m.region m.slot m.op.core m.op.op m.op.part m.err m.settled m.req.id.core m.req.id.op m.req.id.part m.req.call.kind m.req.call.slot m.req.call.dest m.req.call.core m.req.call.mask m.req.call.object m.req.call.bits m.req.call.level m.req.call.offset m.req.call.count m.req.call.index m.req.call.addr m.req.region m.req.width m.req.src.id.core m.req.src.id.op m.req.src.id.part (idCells m.req.src.path) m.req.src.cap.kind m.req.src.cap.base m.req.src.cap.bits m.req.src.cap.rights m.req.src.cap.width m.req.src.cap.level m.req.src.cap.device (idCells m.ids) (m.nodes.map nodec) (intCells m.cores) (m.moves.map movec) m.base m.next.number (intCells m.next.members) (intCells m.next.owners) (m.state.slots.map slotc) (m.state.pending.map reqc) (m.state.marks.map markc) (m.state.answers.map ansc) (m.state.entries.map entryc) (idCells m.state.commits) m.report.core m.report.view.number (intCells m.report.view.members) (intCells m.report.view.owners) (m.report.state.slots.map slotc) (m.report.state.pending.map reqc) (m.report.state.marks.map markc) (m.report.state.answers.map ansc) (m.report.state.entries.map entryc) (idCells m.report.state.commits) m.report.ready m.report.next.number (intCells m.report.next.members) (intCells m.report.next.owners) (m.report.proposal.slots.map slotc) (m.report.proposal.pending.map reqc) (m.report.proposal.marks.map markc) (m.report.proposal.answers.map ansc) (m.report.proposal.entries.map entryc) (idCells m.report.proposal.commits) = some (ltI m.cores[j] m.cores[j + 1], msgT m) := by
 rw [g133_eq]
 refine (elem_ints (show j < m.cores.length by omega) _).trans ?_
 refine (elem_ints hj _).trans ?_
 rfl
theorem s132c133 (m : Msg) (h : m.Fits) : g132c133 (m.cores.length : Int) m.kind m.view m.frm m.to m.round m.region m.slot m.op.core m.op.op m.op.part m.err m.settled m.req.id.core m.req.id.op m.req.id.part m.req.call.kind m.req.call.slot m.req.call.dest m.req.call.core m.req.call.mask m.req.call.object m.req.call.bits m.req.call.level m.req.call.offset m.req.call.count m.req.call.index m.req.call.addr m.req.region m.req.width m.req.src.id.core m.req.src.id.op m.req.src.id.part (idCells m.req.src.path) m.req.src.cap.kind m.req.src.cap.base m.req.src.cap.bits m.req.src.cap.rights m.req.src.cap.width m.req.src.cap.level m.req.src.cap.device (idCells m.ids) (m.nodes.map nodec) (intCells m.cores) (m.moves.map movec) m.base m.next.number (intCells m.next.members) (intCells m.next.owners) (m.state.slots.map slotc) (m.state.pending.map reqc) (m.state.marks.map markc) (m.state.answers.map ansc) (m.state.entries.map entryc) (idCells m.state.commits) m.report.core m.report.view.number (intCells m.report.view.members) (intCells m.report.view.owners) (m.report.state.slots.map slotc) (m.report.state.pending.map reqc) (m.report.state.marks.map markc) (m.report.state.answers.map ansc) (m.report.state.entries.map entryc) (idCells m.report.state.commits) m.report.ready m.report.next.number (intCells m.report.next.members) (intCells m.report.next.owners) (m.report.proposal.slots.map slotc) (m.report.proposal.pending.map reqc) (m.report.proposal.marks.map markc) (m.report.proposal.answers.map ansc) (m.report.proposal.entries.map entryc) (idCells m.report.proposal.commits) = some (ascB ltI m.cores, msgT m) := by
 rw [g132c133_eq]
 have := scan_all (F := fun k i => g132c133L0 k (m.cores.length : Int) i m.kind m.view m.frm m.to m.round m.region m.slot m.op.core m.op.op m.op.part m.err m.settled m.req.id.core m.req.id.op m.req.id.part m.req.call.kind m.req.call.slot m.req.call.dest m.req.call.core m.req.call.mask m.req.call.object m.req.call.bits m.req.call.level m.req.call.offset m.req.call.count m.req.call.index m.req.call.addr m.req.region m.req.width m.req.src.id.core m.req.src.id.op m.req.src.id.part (idCells m.req.src.path) m.req.src.cap.kind m.req.src.cap.base m.req.src.cap.bits m.req.src.cap.rights m.req.src.cap.width m.req.src.cap.level m.req.src.cap.device (idCells m.ids) (m.nodes.map nodec) (intCells m.cores) (m.moves.map movec) m.base m.next.number (intCells m.next.members) (intCells m.next.owners) (m.state.slots.map slotc) (m.state.pending.map reqc) (m.state.marks.map markc) (m.state.answers.map ansc) (m.state.entries.map entryc) (idCells m.state.commits) m.report.core m.report.view.number (intCells m.report.view.members) (intCells m.report.view.owners) (m.report.state.slots.map slotc) (m.report.state.pending.map reqc) (m.report.state.marks.map markc) (m.report.state.answers.map ansc) (m.report.state.entries.map entryc) (idCells m.report.state.commits) m.report.ready m.report.next.number (intCells m.report.next.members) (intCells m.report.next.owners) (m.report.proposal.slots.map slotc) (m.report.proposal.pending.map reqc) (m.report.proposal.marks.map markc) (m.report.proposal.answers.map ansc) (m.report.proposal.entries.map entryc) (idCells m.report.proposal.commits)) (n := m.cores.length) (fin := some (true, msgT m)) (bad := some (false, msgT m)) (prevB ltI m.cores) h.cores 1 (by omega)
  (fun k i h1 hi => by
   obtain ⟨j, rfl⟩ : ∃ j, i = j + 1 := ⟨i - 1, by omega⟩
   refine (g132c133L0_eq ..).trans ?_
   rw [if_pos (lss_t hi), dec_i (by have := h.cores; omega), s133 m hi, Option.bind_some, inc_i hi h.cores, prev_at _ hi]
   cases ltI m.cores[j] m.cores[j + 1] <;> rfl)
  (fun k i hi => by refine (g132c133L0_eq ..).trans ?_; rw [if_neg (lss_f hi)]; rfl)
 rw [asc1] at this
 refine Eq.trans this ?_
 cases ascB ltI m.cores <;> rfl
def fieldOk (m : Msg) : Nat → Bool
 | 0 => regOk m.region
 | 1 => reqOk m.req
 | 2 => opOk m.op
 | 3 => errOk m.err
 | 5 => decide (m.nodes.length ≤ 8) && (decide (m.kind ≠ 4) || decide (m.nodes.length = 1)) && m.nodes.all nodeOk
 | 6 => slotOk m.slot
 | 7 => decide (m.ids.length ≤ 64) && m.ids.all idOk
 | 8 => numOk m.round
 | 9 => coresOk m.cores
 | 10 => repOk m.report
 | 11 => numOk m.base
 | 12 => viewOk m.next
 | 13 => stateOk m.state
 | 14 => decide (m.moves.length ≤ 16) && m.moves.all moveOk
 | _ => true
theorem s78 (m : Msg) (h : m.Fits) : ∀ f : Nat, f < 15 → g78 m.kind m.view m.frm m.to m.round m.region m.slot m.op.core m.op.op m.op.part m.err m.settled m.req.id.core m.req.id.op m.req.id.part m.req.call.kind m.req.call.slot m.req.call.dest m.req.call.core m.req.call.mask m.req.call.object m.req.call.bits m.req.call.level m.req.call.offset m.req.call.count m.req.call.index m.req.call.addr m.req.region m.req.width m.req.src.id.core m.req.src.id.op m.req.src.id.part (idCells m.req.src.path) m.req.src.cap.kind m.req.src.cap.base m.req.src.cap.bits m.req.src.cap.rights m.req.src.cap.width m.req.src.cap.level m.req.src.cap.device (idCells m.ids) (m.nodes.map nodec) (intCells m.cores) (m.moves.map movec) m.base m.next.number (intCells m.next.members) (intCells m.next.owners) (m.state.slots.map slotc) (m.state.pending.map reqc) (m.state.marks.map markc) (m.state.answers.map ansc) (m.state.entries.map entryc) (idCells m.state.commits) m.report.core m.report.view.number (intCells m.report.view.members) (intCells m.report.view.owners) (m.report.state.slots.map slotc) (m.report.state.pending.map reqc) (m.report.state.marks.map markc) (m.report.state.answers.map ansc) (m.report.state.entries.map entryc) (idCells m.report.state.commits) m.report.ready m.report.next.number (intCells m.report.next.members) (intCells m.report.next.owners) (m.report.proposal.slots.map slotc) (m.report.proposal.pending.map reqc) (m.report.proposal.marks.map markc) (m.report.proposal.answers.map ansc) (m.report.proposal.entries.map entryc) (idCells m.report.proposal.commits) (f : Int) = some (fieldOk m f)
 | 0, _ => by
   refine (g78_eq ..).trans ?_
   exact (congrArg (fun x => Option.bind x some) (s119 _))
 | 1, _ => by
   refine (g78_eq ..).trans ?_
   exact (congrArg (fun x => Option.bind x some) (s120 _ h.req))
 | 2, _ => by
   refine (g78_eq ..).trans ?_
   exact (congrArg (fun x => Option.bind x some) (s121 _))
 | 3, _ => by
   refine (g78_eq ..).trans ?_
   exact (congrArg (fun x => Option.bind x some) (s122 _))
 | 4, _ => by
   refine (g78_eq ..).trans ?_
   rfl
 | 5, _ => by
   refine (g78_eq ..).trans ?_
   show (if (cop .gtr ((m.nodes.map nodec).length : Int) 8) = true then some false else if (cop .eql m.kind 4) = true then (if (cop .neq ((m.nodes.map nodec).length : Int) 1) = true then some false else (g123c124 (m.nodes.map nodec)).bind fun r => some (!r)) else (g123c124 (m.nodes.map nodec)).bind fun r => some (!r)) = _
   rw [List.length_map, s123c124 _ h.nodes h.node]
   repeat' split
   all_goals (refine congrArg some ?_; rw [bool_iff]; simp only [fieldOk, Bool.not_not, CQ] at * <;> grind)
 | 6, _ => by
   refine (g78_eq ..).trans ?_
   exact (congrArg (fun x => Option.bind x some) (s126 _))
 | 7, _ => by
   refine (g78_eq ..).trans ?_
   show (if (cop .leq ((idCells m.ids).length : Int) 64) = true then (g127c128 (idCells m.ids)).bind fun r => some (!r) else some false) = _
   rw [ids_len, s127c128 _ h.ids]
   repeat' split
   all_goals (refine congrArg some ?_; rw [bool_iff]; simp only [fieldOk, Bool.not_not, CQ] at * <;> grind)
 | 8, _ => by
   refine (g78_eq ..).trans ?_
   exact (congrArg (fun x => Option.bind x some) (s76 _))
 | 9, _ => by
   refine (g78_eq ..).trans ?_
   show ((g130c131 (intCells m.cores)).bind fun (r : Bool) => if (!r) = true then (g132c133 ((intCells m.cores).length : Int) m.kind m.view m.frm m.to m.round m.region m.slot m.op.core m.op.op m.op.part m.err m.settled m.req.id.core m.req.id.op m.req.id.part m.req.call.kind m.req.call.slot m.req.call.dest m.req.call.core m.req.call.mask m.req.call.object m.req.call.bits m.req.call.level m.req.call.offset m.req.call.count m.req.call.index m.req.call.addr m.req.region m.req.width m.req.src.id.core m.req.src.id.op m.req.src.id.part (idCells m.req.src.path) m.req.src.cap.kind m.req.src.cap.base m.req.src.cap.bits m.req.src.cap.rights m.req.src.cap.width m.req.src.cap.level m.req.src.cap.device (idCells m.ids) (m.nodes.map nodec) (intCells m.cores) (m.moves.map movec) m.base m.next.number (intCells m.next.members) (intCells m.next.owners) (m.state.slots.map slotc) (m.state.pending.map reqc) (m.state.marks.map markc) (m.state.answers.map ansc) (m.state.entries.map entryc) (idCells m.state.commits) m.report.core m.report.view.number (intCells m.report.view.members) (intCells m.report.view.owners) (m.report.state.slots.map slotc) (m.report.state.pending.map reqc) (m.report.state.marks.map markc) (m.report.state.answers.map ansc) (m.report.state.entries.map entryc) (idCells m.report.state.commits) m.report.ready m.report.next.number (intCells m.report.next.members) (intCells m.report.next.owners) (m.report.proposal.slots.map slotc) (m.report.proposal.pending.map reqc) (m.report.proposal.marks.map markc) (m.report.proposal.answers.map ansc) (m.report.proposal.entries.map entryc) (idCells m.report.proposal.commits)).bind fun r => some r.1 else some false) = _
   rw [s130c131 _ h.cores, ints_len, s132c133 m h, Option.bind_some, Option.bind_some]
   show _ = some (m.cores.all coreOk && ascB ltI m.cores)
   cases m.cores.all coreOk <;> rfl
 | 10, _ => by
   refine (g78_eq ..).trans ?_
   exact (congrArg (fun x => Option.bind x some) (s134 _ h.report))
 | 11, _ => by
   refine (g78_eq ..).trans ?_
   exact (congrArg (fun x => Option.bind x some) (s76 _))
 | 12, _ => by
   refine (g78_eq ..).trans ?_
   exact (congrArg (fun x => Option.bind x some) (s135 _ h.next.members h.next.owners))
 | 13, _ => by
   refine (g78_eq ..).trans ?_
   exact (congrArg (fun x => Option.bind x some) (s136 _ h.state))
 | 14, _ => by
   refine (g78_eq ..).trans ?_
   show (if (cop .leq ((m.moves.map movec).length : Int) 16) = true then (g137c138 (m.moves.map movec)).bind fun r => some (!r) else some false) = _
   rw [List.length_map, s137c138 _ h.moves]
   repeat' split
   all_goals (refine congrArg some ?_; rw [bool_iff]; simp only [fieldOk, Bool.not_not, CQ] at * <;> grind)
def zReq (r : Req) : Bool := decide (r.id = zid) && decide (r.call.kind = 0 ∧ r.call.slot = 0 ∧ r.call.dest = 0 ∧ r.call.core = 0 ∧ r.call.mask = 0 ∧ r.call.object = 0 ∧ r.call.bits = 0 ∧ r.call.level = 0 ∧ r.call.offset = 0 ∧ r.call.count = 0 ∧ r.call.index = 0 ∧ r.call.addr = 0) && decide (r.region = 0) && decide (r.width = 0) && sameN r.src noNode
def zView (v : View) : Bool := decide (v.number = 0) && decide (v.members.length = 0) && decide (v.owners.length = 0)
def zState (s : State) : Bool := decide (s.slots.length = 0) && decide (s.pending.length = 0) && decide (s.marks.length = 0) && decide (s.answers.length = 0) && decide (s.entries.length = 0) && decide (s.commits.length = 0)
def zReport (r : Report) : Bool := decide (r.core = 0) && zView r.view && zState r.state && !r.ready && zView r.next && zState r.proposal
theorem eql0 (n : Nat) : cop .eql (n : Int) 0 = decide (n = 0) := by rw [bool_iff]; simp only [CQ]; omega
theorem eqlz (z : Int) : cop .eql z 0 = decide (z = 0) := rfl
theorem s139 (r : Req) (h : r.src.path.length < 2 ^ 63) : g139 r.id.core r.id.op r.id.part r.call.kind r.call.slot r.call.dest r.call.core r.call.mask r.call.object r.call.bits r.call.level r.call.offset r.call.count r.call.index r.call.addr r.region r.width r.src.id.core r.src.id.op r.src.id.part (idCells r.src.path) r.src.cap.kind r.src.cap.base r.src.cap.bits r.src.cap.rights r.src.cap.width r.src.cap.level r.src.cap.device = some (zReq r) := by
 rw [g139_eq, s156z _ h, Option.bind_some]
 simp only [zid_eqb, id_eta]
 unfold zReq
 repeat' split
 all_goals (refine congrArg some ?_; rw [bool_iff]; simp only [CQ] at * <;> grind)
theorem s140 (v : View) : g140 v.number (intCells v.members) (intCells v.owners) = some (zView v) := by
 rw [g140_eq, ints_len, ints_len, eql0, eql0, eqlz]
 unfold zView
 cases decide (v.number = 0) <;> cases decide (v.members.length = 0) <;> rfl
theorem s141 (s : State) : g141 (s.slots.map slotc) (s.pending.map reqc) (s.marks.map markc) (s.answers.map ansc) (s.entries.map entryc) (idCells s.commits) = some (zState s) := by
 rw [g141_eq, List.length_map, List.length_map, List.length_map, List.length_map, List.length_map, ids_len, eql0, eql0, eql0, eql0, eql0, eql0]
 unfold zState
 cases decide (s.slots.length = 0) <;> cases decide (s.pending.length = 0) <;> cases decide (s.marks.length = 0) <;> cases decide (s.answers.length = 0) <;> cases decide (s.entries.length = 0) <;> rfl
theorem s142 (r : Report) : g142 r.core r.view.number (intCells r.view.members) (intCells r.view.owners) (r.state.slots.map slotc) (r.state.pending.map reqc) (r.state.marks.map markc) (r.state.answers.map ansc) (r.state.entries.map entryc) (idCells r.state.commits) r.ready r.next.number (intCells r.next.members) (intCells r.next.owners) (r.proposal.slots.map slotc) (r.proposal.pending.map reqc) (r.proposal.marks.map markc) (r.proposal.answers.map ansc) (r.proposal.entries.map entryc) (idCells r.proposal.commits) = some (zReport r) := by
 rw [g142_eq, s140, s141, s140, s141, eqlz, Option.bind_some, Option.bind_some, Option.bind_some, Option.bind_some]
 unfold zReport
 cases decide (r.core = 0) <;> cases zView r.view <;> cases zState r.state <;> cases r.ready <;> cases zView r.next <;> rfl
def zf (m : Msg) : Nat → Bool
 | 0 => decide (m.region = 0)
 | 1 => zReq m.req
 | 2 => decide (m.op = zid)
 | 3 => decide (m.err = 0)
 | 4 => !m.settled
 | 5 => decide (m.nodes.length = 0)
 | 6 => decide (m.slot = 0)
 | 7 => decide (m.ids.length = 0)
 | 8 => decide (m.round = 0)
 | 9 => decide (m.cores.length = 0)
 | 10 => zReport m.report
 | 11 => decide (m.base = 0)
 | 12 => zView m.next
 | 13 => zState m.state
 | 14 => decide (m.moves.length = 0)
 | _ => true
def zMsg (m : Msg) : Bool := (List.range 15).all (zf m)
theorem and_if (b : Bool) {y : Bool} {x : Option Bool} (h : x = some y) : (if b = true then x else some false) = some (b && y) := by cases b <;> simp [h]
theorem s80 (m : Msg) (h : m.req.src.path.length < 2 ^ 63) : g80 m.kind m.view m.frm m.to m.round m.region m.slot m.op.core m.op.op m.op.part m.err m.settled m.req.id.core m.req.id.op m.req.id.part m.req.call.kind m.req.call.slot m.req.call.dest m.req.call.core m.req.call.mask m.req.call.object m.req.call.bits m.req.call.level m.req.call.offset m.req.call.count m.req.call.index m.req.call.addr m.req.region m.req.width m.req.src.id.core m.req.src.id.op m.req.src.id.part (idCells m.req.src.path) m.req.src.cap.kind m.req.src.cap.base m.req.src.cap.bits m.req.src.cap.rights m.req.src.cap.width m.req.src.cap.level m.req.src.cap.device (idCells m.ids) (m.nodes.map nodec) (intCells m.cores) (m.moves.map movec) m.base m.next.number (intCells m.next.members) (intCells m.next.owners) (m.state.slots.map slotc) (m.state.pending.map reqc) (m.state.marks.map markc) (m.state.answers.map ansc) (m.state.entries.map entryc) (idCells m.state.commits) m.report.core m.report.view.number (intCells m.report.view.members) (intCells m.report.view.owners) (m.report.state.slots.map slotc) (m.report.state.pending.map reqc) (m.report.state.marks.map markc) (m.report.state.answers.map ansc) (m.report.state.entries.map entryc) (idCells m.report.state.commits) m.report.ready m.report.next.number (intCells m.report.next.members) (intCells m.report.next.owners) (m.report.proposal.slots.map slotc) (m.report.proposal.pending.map reqc) (m.report.proposal.marks.map markc) (m.report.proposal.answers.map ansc) (m.report.proposal.entries.map entryc) (idCells m.report.proposal.commits) = some (zMsg m) := by
 rw [g80_eq, s139 _ h, s140, s141, s142, ids_len, List.length_map, ints_len, List.length_map, eql0, eql0, eql0, eql0, eqlz m.round, eqlz m.region, eqlz m.slot, eqlz m.err, eqlz m.base]
 have e : ((cop .eql m.op.core 0) && ((cop .eql m.op.op 0) && ((cop .eql m.op.part 0) && true))) = decide (m.op = zid) := by
  rw [bool_iff, zid_eqb, id_eta, decide_eq_true_eq]
 rw [e]
 simp only [Option.bind_some]
 refine Eq.trans (and_if _ (and_if _ (and_if _ (and_if _ (and_if _ (and_if _ (and_if _ (and_if _ (and_if _ (and_if _ (and_if _ (and_if _ (and_if _ (and_if _ (rfl))))))))))))))) ?_
 refine congrArg some ?_
 show _ = (zf m 0 && (zf m 1 && (zf m 2 && (zf m 3 && (zf m 4 && (zf m 5 && (zf m 6 && (zf m 7 && (zf m 8 && (zf m 9 && (zf m 10 && (zf m 11 && (zf m 12 && (zf m 13 && (zf m 14 && true)))))))))))))))
 simp only [zf, Bool.and_true]
 ac_rfl
end Go.Proofs.YthdihcchfjlgkaaGreat
end

section
namespace Go.Proofs.YthdihcchfjlgkaaGreat
open Go Go.AM
set_option linter.unusedSimpArgs false
set_option linter.unusedVariables false
set_option maxRecDepth 100000
def kf : Nat → List Nat
 | 1 => [0, 1]
 | 2 => [0, 2, 3, 4, 5]
 | 3 => [0, 2]
 | 4 => [0, 2, 6, 5]
 | 5 => [0, 2, 3]
 | 6 => [0, 2, 7]
 | 7 => [0, 2]
 | 8 => [0, 2]
 | 9 => [0, 2]
 | 10 => [0, 2]
 | 11 => [0, 2]
 | 12 => [8, 9]
 | 13 => [8, 10]
 | 14 => [8, 11, 9, 12, 13]
 | 15 => [8]
 | 16 => [8]
 | 17 => [9, 14]
 | _ => []
def fc (l : List Nat) : List (List AV) := l.map fun f : Nat => [I (f : Int)]
theorem s75 : ∀ n : Nat, 1 ≤ n → n ≤ 17 → g75 (n : Int) = some (fc (kf n), true)
 | 1, _, _ => by rw [g75_eq]; rfl
 | 2, _, _ => by rw [g75_eq]; rfl
 | 3, _, _ => by rw [g75_eq]; rfl
 | 4, _, _ => by rw [g75_eq]; rfl
 | 5, _, _ => by rw [g75_eq]; rfl
 | 6, _, _ => by rw [g75_eq]; rfl
 | 7, _, _ => by rw [g75_eq]; rfl
 | 8, _, _ => by rw [g75_eq]; rfl
 | 9, _, _ => by rw [g75_eq]; rfl
 | 10, _, _ => by rw [g75_eq]; rfl
 | 11, _, _ => by rw [g75_eq]; rfl
 | 12, _, _ => by rw [g75_eq]; rfl
 | 13, _, _ => by rw [g75_eq]; rfl
 | 14, _, _ => by rw [g75_eq]; rfl
 | 15, _, _ => by rw [g75_eq]; rfl
 | 16, _, _ => by rw [g75_eq]; rfl
 | 17, _, _ => by rw [g75_eq]; rfl
 | n + 18, _, h => absurd h (by omega)
theorem s75n (k : Int) (h : ¬ (1 ≤ k ∧ k ≤ 17)) : g75 k = some (([] : List (List AV)), false) := by
 rw [g75_eq]
 rw [if_neg (show ¬ (cop .eql k 1) = true by simp only [CQ]; omega)]
 rw [if_neg (show ¬ (cop .eql k 2) = true by simp only [CQ]; omega)]
 rw [if_neg (show ¬ (cop .eql k 3) = true by simp only [CQ]; omega)]
 rw [if_neg (show ¬ (cop .eql k 7) = true by simp only [CQ]; omega)]
 rw [if_neg (show ¬ (cop .eql k 8) = true by simp only [CQ]; omega)]
 rw [if_neg (show ¬ (cop .eql k 9) = true by simp only [CQ]; omega)]
 rw [if_neg (show ¬ (cop .eql k 10) = true by simp only [CQ]; omega)]
 rw [if_neg (show ¬ (cop .eql k 11) = true by simp only [CQ]; omega)]
 rw [if_neg (show ¬ (cop .eql k 4) = true by simp only [CQ]; omega)]
 rw [if_neg (show ¬ (cop .eql k 5) = true by simp only [CQ]; omega)]
 rw [if_neg (show ¬ (cop .eql k 6) = true by simp only [CQ]; omega)]
 rw [if_neg (show ¬ (cop .eql k 12) = true by simp only [CQ]; omega)]
 rw [if_neg (show ¬ (cop .eql k 13) = true by simp only [CQ]; omega)]
 rw [if_neg (show ¬ (cop .eql k 14) = true by simp only [CQ]; omega)]
 rw [if_neg (show ¬ (cop .eql k 15) = true by simp only [CQ]; omega)]
 rw [if_neg (show ¬ (cop .eql k 16) = true by simp only [CQ]; omega)]
 rw [if_neg (show ¬ (cop .eql k 17) = true by simp only [CQ]; omega)]
theorem kf_lt (n : Nat) : ∀ f ∈ kf n, f < 15 := by
 intro f hf
 unfold kf at hf
 split at hf <;> simp at hf <;> omega
theorem elem_fc {γ : Type} {l : List Nat} {i : Nat} (h : i < l.length) (k : Int → Option γ) : elemK (fc l) (i : Int) [.int .i64] k = k (l[i] : Int) := elem_map (f := fun n : Nat => [I (n : Int)]) (sh := [.int .i64]) (v := fun n : Nat => (n : Int)) (fun _ => rfl) h k
theorem clr_path (r : Msg) (f : Nat) (h : r.req.src.path.length < 2 ^ 63) : (clr r f).req.src.path.length < 2 ^ 63 := by
 unfold clr
 split <;> first | exact h | (show ([] : List Id).length < 2 ^ 63; simp)
theorem l44 (m : Msg) (h : m.Fits) (L : List Nat) (hL : ∀ f ∈ L, f < 15) (hn : L.length < 2 ^ 63) : ∀ (j i fuel : Nat) (r : Msg), L.length = i + j → j < fuel → r.req.src.path.length < 2 ^ 63 →
  g44L0 fuel m.kind m.view m.frm m.to m.round m.region m.slot m.op.core m.op.op m.op.part m.err m.settled m.req.id.core m.req.id.op m.req.id.part m.req.call.kind m.req.call.slot m.req.call.dest m.req.call.core m.req.call.mask m.req.call.object m.req.call.bits m.req.call.level m.req.call.offset m.req.call.count m.req.call.index m.req.call.addr m.req.region m.req.width m.req.src.id.core m.req.src.id.op m.req.src.id.part (idCells m.req.src.path) m.req.src.cap.kind m.req.src.cap.base m.req.src.cap.bits m.req.src.cap.rights m.req.src.cap.width m.req.src.cap.level m.req.src.cap.device (idCells m.ids) (m.nodes.map nodec) (intCells m.cores) (m.moves.map movec) m.base m.next.number (intCells m.next.members) (intCells m.next.owners) (m.state.slots.map slotc) (m.state.pending.map reqc) (m.state.marks.map markc) (m.state.answers.map ansc) (m.state.entries.map entryc) (idCells m.state.commits) m.report.core m.report.view.number (intCells m.report.view.members) (intCells m.report.view.owners) (m.report.state.slots.map slotc) (m.report.state.pending.map reqc) (m.report.state.marks.map markc) (m.report.state.answers.map ansc) (m.report.state.entries.map entryc) (idCells m.report.state.commits) m.report.ready m.report.next.number (intCells m.report.next.members) (intCells m.report.next.owners) (m.report.proposal.slots.map slotc) (m.report.proposal.pending.map reqc) (m.report.proposal.marks.map markc) (m.report.proposal.answers.map ansc) (m.report.proposal.entries.map entryc) (idCells m.report.proposal.commits) r.kind r.view r.frm r.to r.round r.region r.slot r.op.core r.op.op r.op.part r.err r.settled r.req.id.core r.req.id.op r.req.id.part r.req.call.kind r.req.call.slot r.req.call.dest r.req.call.core r.req.call.mask r.req.call.object r.req.call.bits r.req.call.level r.req.call.offset r.req.call.count r.req.call.index r.req.call.addr r.req.region r.req.width r.req.src.id.core r.req.src.id.op r.req.src.id.part (idCells r.req.src.path) r.req.src.cap.kind r.req.src.cap.base r.req.src.cap.bits r.req.src.cap.rights r.req.src.cap.width r.req.src.cap.level r.req.src.cap.device (idCells r.ids) (r.nodes.map nodec) (intCells r.cores) (r.moves.map movec) r.base r.next.number (intCells r.next.members) (intCells r.next.owners) (r.state.slots.map slotc) (r.state.pending.map reqc) (r.state.marks.map markc) (r.state.answers.map ansc) (r.state.entries.map entryc) (idCells r.state.commits) r.report.core r.report.view.number (intCells r.report.view.members) (intCells r.report.view.owners) (r.report.state.slots.map slotc) (r.report.state.pending.map reqc) (r.report.state.marks.map markc) (r.report.state.answers.map ansc) (r.report.state.entries.map entryc) (idCells r.report.state.commits) r.report.ready r.report.next.number (intCells r.report.next.members) (intCells r.report.next.owners) (r.report.proposal.slots.map slotc) (r.report.proposal.pending.map reqc) (r.report.proposal.marks.map markc) (r.report.proposal.answers.map ansc) (r.report.proposal.entries.map entryc) (idCells r.report.proposal.commits) (fc L) (L.length : Int) (i : Int) = some ((L.drop i).all (fieldOk m) && zMsg ((L.drop i).foldl clr r)) := by
 intro j
 induction j with
 | zero =>
  intro i fuel r hij hf hr
  obtain ⟨f, rfl⟩ : ∃ f, fuel = f + 1 := ⟨fuel - 1, by omega⟩
  refine (g44L0_eq ..).trans ?_
  rw [if_neg (lss_f (by omega)), s80 r hr, Option.bind_some, List.drop_of_length_le (by omega)]
  rfl
 | succ j ih =>
  intro i fuel r hij hf hr
  obtain ⟨f, rfl⟩ : ∃ f, fuel = f + 1 := ⟨fuel - 1, by omega⟩
  have hi : i < L.length := by omega
  have hlt := hL _ (List.getElem_mem hi)
  refine (g44L0_eq ..).trans ?_
  rw [if_pos (lss_t hi)]
  refine (elem_fc hi _).trans ?_
  rw [s78 m h _ hlt, Option.bind_some, List.drop_eq_getElem_cons hi, List.all_cons, List.foldl_cons, inc_i hi hn]
  cases fieldOk m L[i] with
  | false => rfl
  | true =>
   rw [if_neg (by simp), s79 r _ hlt, Option.bind_some, Bool.true_and]
   exact ih (i + 1) f (clr r L[i]) (by omega) (by omega) (clr_path r _ hr)
def kindOk (k : Int) : Bool := decide (1 ≤ k ∧ k ≤ 17)
def headOk (m : Msg) : Bool := kindOk m.kind && numOk m.view && coreOk m.frm && coreOk m.to
def rest (n : Nat) (m : Msg) : Bool := (List.range 15).all (fun g => (kf n).contains g || zf m g)
def validB (m : Msg) : Bool := headOk m && ((kf m.kind.toNat).all (fieldOk m) && rest m.kind.toNat m)
theorem rest_eq (m : Msg) : ∀ n : Nat, 1 ≤ n → n ≤ 17 → zMsg ((kf n).foldl clr m) = rest n m
 | 1, _, _ => by kernel_rfl
 | 2, _, _ => by kernel_rfl
 | 3, _, _ => by kernel_rfl
 | 4, _, _ => by kernel_rfl
 | 5, _, _ => by kernel_rfl
 | 6, _, _ => by kernel_rfl
 | 7, _, _ => by kernel_rfl
 | 8, _, _ => by kernel_rfl
 | 9, _, _ => by kernel_rfl
 | 10, _, _ => by kernel_rfl
 | 11, _, _ => by kernel_rfl
 | 12, _, _ => by kernel_rfl
 | 13, _, _ => by kernel_rfl
 | 14, _, _ => by kernel_rfl
 | 15, _, _ => by kernel_rfl
 | 16, _, _ => by kernel_rfl
 | 17, _, _ => by kernel_rfl
 | n + 18, _, h => absurd h (by omega)
theorem s44 (m : Msg) (h : m.Fits) : g44 m.kind m.view m.frm m.to m.round m.region m.slot m.op.core m.op.op m.op.part m.err m.settled m.req.id.core m.req.id.op m.req.id.part m.req.call.kind m.req.call.slot m.req.call.dest m.req.call.core m.req.call.mask m.req.call.object m.req.call.bits m.req.call.level m.req.call.offset m.req.call.count m.req.call.index m.req.call.addr m.req.region m.req.width m.req.src.id.core m.req.src.id.op m.req.src.id.part (idCells m.req.src.path) m.req.src.cap.kind m.req.src.cap.base m.req.src.cap.bits m.req.src.cap.rights m.req.src.cap.width m.req.src.cap.level m.req.src.cap.device (idCells m.ids) (m.nodes.map nodec) (intCells m.cores) (m.moves.map movec) m.base m.next.number (intCells m.next.members) (intCells m.next.owners) (m.state.slots.map slotc) (m.state.pending.map reqc) (m.state.marks.map markc) (m.state.answers.map ansc) (m.state.entries.map entryc) (idCells m.state.commits) m.report.core m.report.view.number (intCells m.report.view.members) (intCells m.report.view.owners) (m.report.state.slots.map slotc) (m.report.state.pending.map reqc) (m.report.state.marks.map markc) (m.report.state.answers.map ansc) (m.report.state.entries.map entryc) (idCells m.report.state.commits) m.report.ready m.report.next.number (intCells m.report.next.members) (intCells m.report.next.owners) (m.report.proposal.slots.map slotc) (m.report.proposal.pending.map reqc) (m.report.proposal.marks.map markc) (m.report.proposal.answers.map ansc) (m.report.proposal.entries.map entryc) (idCells m.report.proposal.commits) = some (validB m) := by
 rw [g44_eq]
 unfold validB headOk
 by_cases hk : 1 ≤ m.kind ∧ m.kind ≤ 17
 ·obtain ⟨n, hn⟩ : ∃ n : Nat, m.kind = n := ⟨m.kind.toNat, by omega⟩
  have h1 : kindOk m.kind = true := decide_eq_true hk
  have e19 : g75 m.kind = some (fc (kf n), true) := by rw [hn]; exact s75 n (by omega) (by omega)
  rw [e19, Option.bind_some, s76, s77, s77, Option.bind_some, Option.bind_some, Option.bind_some, h1]
  have hlen : (fc (kf n)).length = (kf n).length := List.length_map _
  have hsz : (kf n).length < 2 ^ 63 := by
   have : (kf n).length ≤ 5 := by unfold kf; split <;> simp
   omega
  have e := l44 m h (kf n) (kf_lt n) hsz (kf n).length 0 FUEL m (by omega) (by have := fuel63 hsz; omega) h.req
  rw [List.drop_zero, rest_eq m n (by omega) (by omega)] at e
  have hk2 : m.kind.toNat = n := by omega
  rw [hk2]
  dsimp only
  rw [hlen]
  refine (if_neg (by simp)).trans ?_
  cases numOk m.view <;> cases coreOk m.frm <;> cases coreOk m.to <;> first | rfl | exact e
 ·have h1 : kindOk m.kind = false := decide_eq_false hk
  rw [s75n _ hk, Option.bind_some, h1]
  rfl
end Go.Proofs.YthdihcchfjlgkaaGreat
end

section
namespace Go.Proofs.YthdihcchfjlgkaaGreat
open Go Go.AM
set_option linter.unusedSimpArgs false
set_option linter.unusedVariables false
set_option maxRecDepth 100000
theorem eqlD (a b : Int) : cop .eql a b = decide (a = b) := rfl
def at2 {α : Type} (q : α → α → Bool) (l m : List α) (i : Nat) : Bool := match l[i]?, m[i]? with | some a, some b => q a b | _, _ => true
def sameL {α : Type} (q : α → α → Bool) (l m : List α) : Bool := decide (l.length = m.length) && (List.range' 0 l.length).all (at2 q l m)
theorem at2_at {α : Type} (q : α → α → Bool) {l m : List α} {i : Nat} (h : i < l.length) (h' : i < m.length) : at2 q l m i = q l[i] m[i] := by
 unfold at2
 rw [List.getElem?_eq_getElem h, List.getElem?_eq_getElem h']
def sameS : Slot → Slot → Bool := fun a b => decide (a.op = b.op) && decide (a.lock.core = b.lock.core ∧ a.lock.op = b.lock.op ∧ a.lock.part = b.lock.part) && sameN a.node b.node
theorem s18 (l m : List Slot) (hl : l.length < 2 ^ 63) (pl : ∀ x ∈ l, x.node.path.length < 2 ^ 63) (pm : ∀ x ∈ m, x.node.path.length < 2 ^ 63) : g18 (l.map slotc) (m.map slotc) = some (sameL sameS l m) := by
 rw [g18_eq, List.length_map, List.length_map]
 unfold sameL
 by_cases h : l.length = m.length
 ·rw [if_neg (show ¬ (cop .neq (l.length : Int) (m.length : Int)) = true by simp only [CQ]; omega), decide_eq_true h, Bool.true_and]
  have := scan_all (F := fun k i => g18L0 k (l.map slotc) (m.map slotc) i) (n := l.length) (fin := some true) (bad := some false) (at2 sameS l m) hl 0 (by omega)
   (fun k i _ hi => by
    have hi' : i < m.length := by omega
    refine (g18L0_eq ..).trans ?_
    rw [List.length_map, if_pos (lss_t hi)]
    refine (elem_slots hi _).trans ?_
    refine (elem_slots hi' _).trans ?_
    rw [inc_i hi hl, at2_at _ hi hi']
    generalize g18L0 k (l.map slotc) (m.map slotc) ((i + 1 : Nat) : Int) = X
    try simp only [elem_slots hi, elem_slots hi', slotV, d2, d4, d8, d16, s49' _ _ (pl _ (List.getElem_mem hi)) (pm _ (List.getElem_mem hi')), Option.bind_some]
    generalize l[i] = a
    generalize m[i] = b
    unfold sameS
    repeat' split
    all_goals (simp only [eqlD, CQ] at * <;> grind))
   (fun k i hi => by refine (g18L0_eq ..).trans ?_; rw [List.length_map, if_neg (lss_f hi)])
  rw [Nat.sub_zero] at this
  refine Eq.trans this ?_
  cases (List.range' 0 l.length).all (at2 sameS l m) <;> rfl
 ·rw [if_pos (show (cop .neq (l.length : Int) (m.length : Int)) = true by simp only [CQ]; omega), decide_eq_false h]
  rfl
theorem sameL_refl {α : Type} (q : α → α → Bool) (hq : ∀ a, q a a = true) (l : List α) : sameL q l l = true := by
 unfold sameL
 rw [decide_eq_true rfl, Bool.true_and, List.all_eq_true]
 intro i hi
 have hi' : i < l.length := by simpa [List.mem_range'] using hi
 rw [at2_at q hi' hi', hq]
theorem sameN_refl (a : Node) : sameN a a = true := by simp [sameN]
end Go.Proofs.YthdihcchfjlgkaaGreat
end

section
namespace Go.Proofs.YthdihcchfjlgkaaGreat
open Go Go.AM
set_option linter.unusedSimpArgs false
set_option linter.unusedVariables false
set_option maxRecDepth 100000
end Go.Proofs.YthdihcchfjlgkaaGreat
end

section
namespace Go.Proofs.YthdihcchfjlgkaaGreat
open Go Go.AM
set_option linter.unusedSimpArgs false
set_option linter.unusedVariables false
set_option maxRecDepth 100000
theorem collect {α : Type} {F : Nat → LL → Int → Option LL} (l : List α) (f : α → LL) (hn : l.length < 2 ^ 63)
  (step : ∀ (k i : Nat) (hi : i < l.length), F (k + 1) ((l.take i).flatMap f) (i : Int) = F k ((l.take i).flatMap f ++ f l[i]) ((i + 1 : Nat) : Int))
  (last : ∀ (k : Nat) (acc : LL) (i : Nat), l.length ≤ i → F (k + 1) acc (i : Int) = some acc) : F FUEL [] 0 = some (l.flatMap f) := by
 have key : ∀ (j i fuel : Nat), l.length ≤ i + j → j < fuel → F fuel ((l.take i).flatMap f) (i : Int) = some (l.flatMap f) := by
  intro j
  induction j with
  | zero =>
   intro i fuel h hf
   obtain ⟨q, rfl⟩ : ∃ q, fuel = q + 1 := ⟨fuel - 1, by omega⟩
   rw [last q _ i (by omega), List.take_of_length_le (by omega)]
  | succ j ih =>
   intro i fuel h hf
   obtain ⟨q, rfl⟩ : ∃ q, fuel = q + 1 := ⟨fuel - 1, by omega⟩
   by_cases hi : i < l.length
   ·have e : (l.take i).flatMap f ++ f l[i] = (l.take (i + 1)).flatMap f := by
     rw [List.take_add_one, List.getElem?_eq_getElem hi, Option.toList_some, List.flatMap_append, List.flatMap_singleton]
    rw [step q i hi, e]
    exact ih (i + 1) q (by omega) (by omega)
   ·rw [last q _ i (by omega), List.take_of_length_le (by omega)]
 exact key l.length 0 FUEL (by omega) (by have := fuel63 hn; omega)
theorem flat_one {α : Type} (f : α → List AV) (l : List α) : l.flatMap (fun x => [f x]) = l.map f := by
 induction l with
 | nil => rfl
 | cons a r ih => rw [List.flatMap_cons, ih, List.map_cons]; rfl
theorem room_small {a b : LL} {k : Nat} (h : a.length + b.length ≤ 4096) (hk : k ≤ 10000) : roomP a b k := by
 unfold roomP roomMax
 have : (a.length + b.length) * (k + 1) ≤ 4096 * 10001 := Nat.mul_le_mul h (by omega)
 omega
theorem s56 (l : List Id) (h : l.length ≤ 64) : g56 (idCells l) = some (idCells l) := by
 rw [g56_eq]
 exact reqK_pos (room_small (by rw [ids_len]; simp; omega) (by omega)) _
theorem s70 (l : List Id) (h : l.length ≤ 64) : g70 (idCells l) = some (idCells l) := by
 rw [g70_eq]
 refine nilK_of (fun hn => ?_) ?_
 ·rw [if_pos rfl, hn]
 ·rw [if_neg Bool.false_ne_true]
  exact reqK_pos (room_small (by rw [ids_len]; simp; omega) (by omega)) _
theorem s26 (n : Node) (h : n.path.length ≤ 64) : g26 n.id.core n.id.op n.id.part (idCells n.path) n.cap.kind n.cap.base n.cap.bits n.cap.rights n.cap.width n.cap.level n.cap.device = some (nodeV n) := by
 rw [g26_eq, s56 _ h]; rfl
theorem s40 (n : Node) (h : n.path.length ≤ 64) : g40 n.id.core n.id.op n.id.part (idCells n.path) n.cap.kind n.cap.base n.cap.bits n.cap.rights n.cap.width n.cap.level n.cap.device = some (nodeV n) := by
 rw [g40_eq, s70 _ h]; rfl
structure Few (p : List Req) : Prop where
 len : p.length ≤ 30
 path : ∀ r ∈ p, r.src.path.length ≤ 20
def viewc (v : View) : List AV := [I v.number, .slice false 1 (intCells v.members), .slice false 1 (intCells v.owners)]
def reportc (r : Report) : List AV := [I r.core] ++ viewc r.view ++ statec r.state ++ [B r.ready] ++ viewc r.next ++ statec r.proposal
def msgc (m : Msg) : List AV := [I m.kind, I m.view, I m.frm, I m.to, I m.round, I m.region, I m.slot, I m.op.core, I m.op.op, I m.op.part, I m.err, B m.settled] ++ reqc m.req ++ [.slice false 3 (idCells m.ids), .slice false 11 (m.nodes.map nodec), .slice false 1 (intCells m.cores), .slice false 2 (m.moves.map movec), I m.base] ++ viewc m.next ++ statec m.state ++ reportc m.report
theorem elem_msgs {γ : Type} {l : List Msg} {i : Nat} (h : i < l.length) (k : Qt2 → Option γ) : elemK (l.map msgc) (i : Int) hs0 k = k (msgT l[i]) := elem_map (f := msgc) (sh := hs0) (v := msgT) (fun _ => rfl) h k
structure FewS (l : List Slot) : Prop where
 len : l.length ≤ 70
 path : ∀ s ∈ l, s.node.path.length ≤ 20
end Go.Proofs.YthdihcchfjlgkaaGreat
end

section
namespace Go.Proofs.YthdihcchfjlgkaaGreat
open Go Go.AM
set_option linter.unusedSimpArgs false
set_option linter.unusedVariables false
set_option maxRecDepth 100000
theorem set_cells {α : Type} (f : α → List AV) (g : α → α) (l : List α) (i o : Nat) (c : List AV) (h : ∀ x, l[i]? = some x → setCells (f x) o c = f (g x)) : setElem (l.map f) i o c = (l.modify i g).map f := by
 unfold setElem
 refine List.ext_getElem? fun j => ?_
 rw [List.getElem?_modify, List.getElem?_map, List.getElem?_map, List.getElem?_modify]
 cases hj : l[j]? with
 | none => rfl
 | some x =>
  by_cases hij : i = j
  ·subst hij
   simp [h x hj]
  ·simp [hij]
theorem modify_id {α : Type} (l : List α) (i : Nat) : l.modify i (fun x => x) = l := by
 refine List.ext_getElem? fun j => ?_
 rw [List.getElem?_modify]
 cases l[j]? <;> simp
theorem set_same {α : Type} (f : α → List AV) (l : List α) (i o : Nat) (c : List AV) (h : ∀ x, l[i]? = some x → setCells (f x) o c = f x) : setElem (l.map f) i o c = l.map f := by
 rw [set_cells f (fun x => x) l i o c h, modify_id]
theorem nat_lt {i n : Nat} (h : i < n) : ((i : Int) < (n : Int)) := by omega
theorem s15 (l : List Slot) (h : FewS l) : g15 (l.map slotc) = some (l.map slotc) := by
 rw [g15_eq]
 have hn : l.length < 2 ^ 63 := by have := h.len; omega
 refine (collect (F := fun k acc i => g15L0 k (l.map slotc) acc i) l (fun r => [slotc r]) hn (fun k i hi => ?_) (fun k acc i hi => ?_)).trans (by rw [flat_one])
 ·show g15L0 (k + 1) _ _ _ = _
  rw [g15L0_eq, List.length_map, if_pos (lss_t hi)]
  refine (elem_slots hi _).trans ?_
  simp only [slotV, d2, d4, d8, d16]
  have hp := h.path l[i] (List.getElem_mem hi)
  rw [s26 l[i].node (by omega), Option.bind_some]
  refine (elem_slots hi _).trans ?_
  refine (elem_slots hi _).trans ?_
  refine (reqK_pos (room_small ?_ (by omega)) _).trans ?_
  ·rw [flat_one]
   have := h.len
   simp only [List.length_map, List.length_take, List.length_append, List.length_cons, List.length_nil]
   omega
  ·rw [inc_i hi hn]
   rfl
 ·show g15L0 (k + 1) _ _ _ = _
  rw [g15L0_eq, List.length_map, if_neg (lss_f hi)]
theorem s74 (l : List Slot) (h : FewS l) : g74 (l.map slotc) = some (l.map slotc) := by
 rw [g74_eq]
 refine nilK_of (fun hn => ?_) ?_
 ·rw [if_pos rfl, hn]
 ·rw [if_neg Bool.false_ne_true]
  refine reqK_pos (room_small (by have := h.len; simp; omega) (by omega)) _
theorem s43 (l : List Slot) (h : FewS l) : g43 (l.map slotc) = some (l.map slotc) := by
 rw [g43_eq, s74 l h, Option.bind_some, List.length_map]
 have hn : l.length < 2 ^ 63 := by have := h.len; omega
 have := scan_all (F := fun k i => g43L0 k (l.map slotc) (l.length : Int) i) (n := l.length) (fin := some (l.map slotc)) (bad := none) (fun _ => true) hn 0 (by omega)
  (fun k i _ hi => by
   show g43L0 (k + 1) _ _ _ = _
   rw [g43L0_eq, if_pos (lss_t hi), List.length_map]
   have hin := nat_lt hi
   refine (reqK_pos (by omega) _).trans ?_
   refine (reqK_pos hin _).trans ?_
   refine (elem_slots hi _).trans ?_
   simp only [slotV, d2, d4, d8, d16]
   have hp := h.path l[i] (List.getElem_mem hi)
   rw [s40 l[i].node (by omega), Option.bind_some]
   refine (reqK_pos (by omega) _).trans ?_
   refine (reqK_pos hin _).trans ?_
   refine (reqK_pos (by omega) _).trans ?_
   refine (reqK_pos hin _).trans ?_
   rw [inc_i hi hn]
   refine Eq.trans ?_ (if_pos trivial).symm
   refine congrArg (fun x => g43L0 k x (l.length : Int) ((i + 1 : Nat) : Int)) ?_
   refine set_same slotc l _ 0 (nodec l[i].node) fun x hx => ?_
   have hx' : l[i] = x := by
    rw [Int.toNat_natCast, List.getElem?_eq_getElem hi] at hx
    exact Option.some.inj hx
   rw [hx']
   rfl)
  (fun k i hi => by show g43L0 (k + 1) _ _ _ = _; rw [g43L0_eq, if_neg (lss_f hi)])
 refine this.trans ?_
 rw [if_pos (by simp)]
def busyS (s : Slot) : Bool := if (cop .neq s.op 0) = true then true else !((cop .eql s.lock.core 0) && ((cop .eql s.lock.op 0) && ((cop .eql s.lock.part 0) && true)))
theorem s68 (s : Slot) : g68 s.node.id.core s.node.id.op s.node.id.part (idCells s.node.path) s.node.cap.kind s.node.cap.base s.node.cap.bits s.node.cap.rights s.node.cap.width s.node.cap.level s.node.cap.device s.op s.lock.core s.lock.op s.lock.part = some (busyS s) := by
 rw [g68_eq, busyS]
 split <;> rfl
def setOp (op : Int) (s : Slot) : Slot := { s with op := op }
def rsv (l : List Slot) (op : Int) : List Int → List Slot → Option (List Slot)
 | [], acc => some acc
 | z :: zs, acc => match l[z.toNat]? with | some s => (match busyS s with | true => none | false => rsv l op zs (acc.modify z.toNat (setOp op))) | none => none
def okAt (n : Nat) (z : List Int) (i : Nat) : Bool := match z[i]? with | some v => decide (0 ≤ v) && (decide (v < n) && !((z.take i).any fun x => decide (v = x))) | none => true
def rsv2 (l : List Slot) (op : Int) (z : List Int) : List Slot × Int := match rsv l op z l with | some a => (a, 0) | none => ([], 4)
def reserve (l : List Slot) (z : List Int) (op : Int) : List Slot × Int :=
 if op < 1 ∨ 1073741824 < op then ([], 1) else if (List.range' 0 z.length).all (okAt l.length z) = true then rsv2 l op z else ([], 1)
def resc (r : List Slot × Int) : LL × Int := (r.1.map slotc, r.2)
theorem loop2 {F : Nat → LL → Int → Option (LL × Int)} (l : List Slot) (op : Int) (z : List Int) (hn : z.length < 2 ^ 63) (hz : ∀ v ∈ z, 0 ≤ v ∧ v < l.length)
  (step : ∀ (k i : Nat) (acc : List Slot) (hi : i < z.length) (hv : z[i].toNat < l.length), acc.length = l.length → F (k + 1) (acc.map slotc) (i : Int) = if busyS l[z[i].toNat] = true then some ([], 4) else F k ((acc.modify z[i].toNat (setOp op)).map slotc) ((i + 1 : Nat) : Int))
  (last : ∀ (k i : Nat) (acc : List Slot), z.length ≤ i → F (k + 1) (acc.map slotc) (i : Int) = some (acc.map slotc, 0)) : F FUEL (l.map slotc) 0 = some (resc (rsv2 l op z)) := by
 have key : ∀ (j i fuel : Nat) (acc : List Slot), z.length ≤ i + j → j < fuel → acc.length = l.length →
   F fuel (acc.map slotc) (i : Int) = some (resc (match rsv l op (z.drop i) acc with | some a => (a, 0) | none => ([], 4))) := by
  intro j
  induction j with
  | zero =>
   intro i fuel acc h hf ha
   obtain ⟨q, rfl⟩ : ∃ q, fuel = q + 1 := ⟨fuel - 1, by omega⟩
   rw [last q i acc (by omega), List.drop_of_length_le (by omega)]
   rfl
  | succ j ih =>
   intro i fuel acc h hf ha
   obtain ⟨q, rfl⟩ : ∃ q, fuel = q + 1 := ⟨fuel - 1, by omega⟩
   by_cases hi : i < z.length
   ·have hv := hz z[i] (List.getElem_mem hi)
    have hv' : z[i].toNat < l.length := by omega
    rw [step q i acc hi hv' ha, List.drop_eq_getElem_cons hi, rsv, List.getElem?_eq_getElem hv']
    dsimp only
    cases hb : busyS l[z[i].toNat] with
    | true => rfl
    | false =>
     rw [if_neg Bool.false_ne_true]
     exact ih (i + 1) q _ (by omega) (by omega) (by rw [List.length_modify]; exact ha)
   ·rw [last q i acc (by omega), List.drop_of_length_le (by omega)]
    rfl
 exact key z.length 0 FUEL l (by omega) (by have := fuel63 hn; omega) rfl
theorem ok_range {n : Nat} {z : List Int} (h : (List.range' 0 z.length).all (okAt n z) = true) : ∀ v ∈ z, 0 ≤ v ∧ v < n := by
 intro v hv
 obtain ⟨i, hi, rfl⟩ := List.getElem_of_mem hv
 rw [List.all_eq_true] at h
 have := h i (by simp [List.mem_range', hi])
 simp only [okAt, List.getElem?_eq_getElem hi, Bool.and_eq_true, decide_eq_true_eq] at this
 exact ⟨this.1, this.2.1⟩
theorem elem_slot_at {γ : Type} {l : List Slot} {v : Int} (h0 : 0 ≤ v) (h : v.toNat < l.length) (k : ShsT slotSh → Option γ) : elemK (l.map slotc) v slotSh k = k (slotV l[v.toNat]) := by
 have e : v = ((v.toNat : Nat) : Int) := by omega
 have := elem_slots h k
 rwa [← e] at this
theorem set_op (acc : List Slot) (i : Nat) (op : Int) : setElem (acc.map slotc) i 11 [AV.val (.int .i64 op)] = (acc.modify i (setOp op)).map slotc := set_cells slotc (setOp op) acc i 11 _ fun _ _ => rfl
theorem take_ints (z : List Int) (i : Nat) : List.take (Int.toNat (i : Int)) (intCells z) = intCells (z.take i) := by
 rw [Int.toNat_natCast]; exact (List.map_take ..).symm
end Go.Proofs.YthdihcchfjlgkaaGreat
end

section
namespace Go.Proofs.YthdihcchfjlgkaaGreat
open Go Go.AM
set_option linter.unusedSimpArgs false
set_option linter.unusedVariables false
set_option maxRecDepth 100000
theorem scan_stop {γ : Type} {F : Nat → Int → Option γ} {n : Nat} (hit : Nat → γ) (p : Nat → Bool) (hn : n < 2 ^ 63)
  (step : ∀ k i : Nat, i < n → F (k + 1) (i : Int) = if p i = true then some (hit i) else F k ((i + 1 : Nat) : Int))
  (last : ∀ k : Nat, F (k + 1) (n : Int) = some (hit n)) (m : Nat) (hm : m ≤ n) (h1 : ∀ j, j < m → p j = false) (h2 : m < n → p m = true) : F FUEL 0 = some (hit m) := by
 have key : ∀ (j i fuel : Nat), i + j = m → n - i < fuel → F fuel (i : Int) = some (hit m) := by
  intro j
  induction j with
  | zero =>
   intro i fuel h hf
   obtain ⟨q, rfl⟩ : ∃ q, fuel = q + 1 := ⟨fuel - 1, by omega⟩
   have : i = m := by omega
   subst this
   by_cases hi : i < n
   ·rw [step q i hi, if_pos (h2 hi)]
   ·have : i = n := by omega
    subst this
    exact last q
  | succ j ih =>
   intro i fuel h hf
   obtain ⟨q, rfl⟩ : ∃ q, fuel = q + 1 := ⟨fuel - 1, by omega⟩
   rw [step q i (by omega), if_neg (by rw [h1 i (by omega)]; exact Bool.false_ne_true)]
   exact ih (i + 1) q (by omega) (by omega)
 exact key m 0 FUEL (by omega) (by have := fuel63 hn; omega)
def fst' {α : Type} (q : α → Bool) : List α → Nat
 | [] => 0
 | a :: r => match q a with | true => 0 | false => fst' q r + 1
theorem fst_le {α : Type} (q : α → Bool) : ∀ (l : List α), fst' q l ≤ l.length
 | [] => Nat.le_refl _
 | a :: r => by
  unfold fst'
  have := fst_le q r
  split <;> simp only [List.length_cons] <;> omega
theorem fst_lt {α : Type} (q : α → Bool) : ∀ (l : List α) (j : Nat) (hj : j < l.length), j < fst' q l → q l[j] = false
 | [], j, hj, _ => by simp at hj
 | a :: r, j, hj, h => by
  unfold fst' at h
  split at h
  ·omega
  ·rename_i ha
   cases j with
   | zero => exact ha
   | succ j => exact fst_lt q r j (by simpa using hj) (by omega)
theorem fst_at {α : Type} (q : α → Bool) : ∀ (l : List α) (h : fst' q l < l.length), q l[fst' q l] = true
 | [], h => by simp at h
 | a :: r, h => by
  cases ha : q a with
  | true =>
   have e : fst' q (a :: r) = 0 := by unfold fst'; rw [ha]
   simp only [e]
   exact ha
  | false =>
   have e : fst' q (a :: r) = fst' q r + 1 := by rw [fst']; rw [ha]
   have h' : fst' q r < r.length := by rw [e] at h; simpa using h
   have := fst_at q r h'
   simp only [e]
   exact this
def atR (q : Req → Bool) (p : List Req) (i : Nat) : Bool := match p[i]? with | some x => q x | none => false
theorem atR_at (q : Req → Bool) {p : List Req} {i : Nat} (h : i < p.length) : atR q p i = q p[i] := by unfold atR; rw [List.getElem?_eq_getElem h]
def idIs (i : Id) (r : Req) : Bool := decide (r.id = i)
def idIn (i : Id) (p : List Req) : Bool := decide (fst' (idIs i) p < p.length)
def hitZ (n m : Nat) : Int := if m < n then (m : Int) else -1
theorem hitZ_geq (n m : Nat) : cop .geq (hitZ n m) 0 = decide (m < n) := by
 unfold hitZ
 rw [bool_iff]
 split <;> simp only [CQ] <;> constructor <;> intro <;> first | omega | simp_all
theorem hitZ_lt {n m : Nat} (h : m < n) : hitZ n m = (m : Int) := if_pos h
theorem id_dec (r : Req) (i : Id) : ((cop .eql r.id.core i.core) && ((cop .eql r.id.op i.op) && ((cop .eql r.id.part i.part) && true))) = idIs i r := by
 rw [bool_iff, id_eqb]
 unfold idIs
 rw [decide_eq_true_eq]
def before (r q : Req) : Bool := ltId r.id q.id
def posR (p : List Req) (r : Req) : Nat := fst' (before r) p
def insR (p : List Req) (r : Req) (i : Nat) : List Req := p.take i ++ [r] ++ p.drop i
theorem take_reqs (p : List Req) (i : Nat) : List.take (Int.toNat (i : Int)) (p.map reqc) = (p.take i).map reqc := by rw [Int.toNat_natCast]; exact (List.map_take ..).symm
theorem drop_reqs (p : List Req) (i : Nat) : List.drop (Int.toNat (i : Int)) (p.map reqc) = (p.drop i).map reqc := by rw [Int.toNat_natCast]; exact (List.map_drop ..).symm
def beginS (l : List Slot) (p : List Req) (r : Req) (z : List Int) : List Slot × List Req × Int :=
 if idIn r.id p = true then ([], [], 1) else if (reserve l z r.id.op).2 ≠ 0 then ([], [], (reserve l z r.id.op).2) else ((reserve l z r.id.op).1, insR p r (posR p r), 0)
def beginc (b : List Slot × List Req × Int) : LL × LL × Int := (b.1.map slotc, b.2.1.map reqc, b.2.2)
end Go.Proofs.YthdihcchfjlgkaaGreat
end

section
namespace Go.Proofs.YthdihcchfjlgkaaGreat
open Go Go.AM
set_option linter.unusedSimpArgs false
set_option linter.unusedVariables false
set_option maxRecDepth 100000
theorem loop_to {σ γ : Type} {F : Nat → σ → Int → Option γ} {n : Nat} (S : Nat → σ) {fin : Option γ} (hn : n < 2 ^ 63)
  (step : ∀ k i : Nat, i < n → F (k + 1) (S i) (i : Int) = F k (S (i + 1)) ((i + 1 : Nat) : Int)) (last : ∀ k : Nat, F (k + 1) (S n) (n : Int) = fin) : F FUEL (S 0) 0 = fin := by
 have key : ∀ (j i fuel : Nat), i + j = n → j < fuel → F fuel (S i) (i : Int) = fin := by
  intro j
  induction j with
  | zero =>
   intro i fuel h hf
   obtain ⟨q, rfl⟩ : ∃ q, fuel = q + 1 := ⟨fuel - 1, by omega⟩
   have : i = n := by omega
   subst this
   exact last q
  | succ j ih =>
   intro i fuel h hf
   obtain ⟨q, rfl⟩ : ∃ q, fuel = q + 1 := ⟨fuel - 1, by omega⟩
   rw [step q i (by omega)]
   exact ih (i + 1) q (by omega) (by omega)
 exact key n 0 FUEL (by omega) (by have := fuel63 hn; omega)
def upto {α : Type} (f : α → α) (l : List α) (i : Nat) : List α := (l.take i).map f ++ l.drop i
theorem upto_len {α : Type} (f : α → α) (l : List α) (i : Nat) : (upto f l i).length = l.length := by simp [upto]; omega
theorem upto_zero {α : Type} (f : α → α) (l : List α) : upto f l 0 = l := by simp [upto]
theorem upto_all {α : Type} (f : α → α) (l : List α) : upto f l l.length = l.map f := by simp [upto]
theorem upto_get {α : Type} (f : α → α) (l : List α) (i j : Nat) : (upto f l i)[j]? = (l[j]?).map (if j < i then f else id) := by
 unfold upto
 by_cases h : j < i
 ·by_cases hj : j < l.length
  ·rw [List.getElem?_append_left (by simp; omega), if_pos h]
   simp [List.getElem?_take, h]
  ·rw [List.getElem?_eq_none (by simp; omega), List.getElem?_eq_none (by omega)]; rfl
 ·rw [if_neg h]
  by_cases hi : i ≤ l.length
  ·rw [List.getElem?_append_right (by simp; omega), List.getElem?_drop]
   simp
   congr 1; omega
  ·rw [List.getElem?_eq_none (by simp; omega), List.getElem?_eq_none (by omega)]; rfl
theorem upto_mod {α : Type} (f : α → α) (l : List α) (i : Nat) : (upto f l i).modify i f = upto f l (i + 1) := by
 refine List.ext_getElem? fun j => ?_
 rw [List.getElem?_modify, upto_get, upto_get]
 cases l[j]? with
 | none => rfl
 | some x =>
  by_cases hij : i = j
  ·subst hij; simp
  ·have : (j < i + 1) ↔ (j < i) := by omega
   simp [hij, this]
theorem upto_at {α : Type} (f : α → α) (l : List α) {i : Nat} (hi : i < l.length) : (upto f l i)[i]'(by rw [upto_len]; exact hi) = l[i] := by
 have h := upto_get f l i i
 rw [List.getElem?_eq_getElem (by rw [upto_len]; exact hi), List.getElem?_eq_getElem hi] at h
 simpa using h
theorem upto_same {α : Type} (f : α → α) (l : List α) {i : Nat} (hi : i < l.length) (h : f l[i] = l[i]) : upto f l (i + 1) = upto f l i := by
 refine List.ext_getElem? fun j => ?_
 rw [upto_get, upto_get]
 by_cases hij : j = i
 ·subst hij
  rw [List.getElem?_eq_getElem hi]; simp [h]
 ·have : (j < i + 1) ↔ (j < i) := by omega
  simp only [this]
theorem elem_upto {γ : Type} (f : Slot → Slot) (l : List Slot) {i : Nat} (hi : i < l.length) (k : ShsT slotSh → Option γ) : elemK ((upto f l i).map slotc) (i : Int) slotSh k = k (slotV l[i]) := by
 have h : i < (upto f l i).length := by rw [upto_len]; exact hi
 rw [elem_slots h, upto_at f l hi]
def emptyS (s : Slot) : Bool := decide (s.node.id = zid)
theorem empty_dec (s : Slot) : ((cop .eql s.node.id.core 0) && ((cop .eql s.node.id.op 0) && ((cop .eql s.node.id.part 0) && true))) = emptyS s := by
 rw [bool_iff, zid_eqb]
 unfold emptyS
 rw [decide_eq_true_eq]
theorem s144 (s : Slot) : g144 s.node.id.core s.node.id.op s.node.id.part (idCells s.node.path) s.node.cap.kind s.node.cap.base s.node.cap.bits s.node.cap.rights s.node.cap.width s.node.cap.level s.node.cap.device s.op s.lock.core s.lock.op s.lock.part = some (emptyS s) := by rw [g144_eq, empty_dec]
theorem s13 (s : Slot) : g13 s.node.id.core s.node.id.op s.node.id.part (idCells s.node.path) s.node.cap.kind s.node.cap.base s.node.cap.bits s.node.cap.rights s.node.cap.width s.node.cap.level s.node.cap.device s.op s.lock.core s.lock.op s.lock.part = some (emptyS s) := by rw [g13_eq, empty_dec]
end Go.Proofs.YthdihcchfjlgkaaGreat
end

section
namespace Go.Proofs.YthdihcchfjlgkaaGreat
open Go Go.AM
set_option linter.unusedSimpArgs false
set_option linter.unusedVariables false
set_option maxRecDepth 100000
def setN (n : Node) (s : Slot) : Slot := { s with node := n }
def putErr (l : List Slot) (z : Int) (n : Node) : Int :=
 if z < 0 ∨ (l.length : Int) ≤ z ∨ nodeOk n = false ∨ l.any (hitS n.id) = true then 1 else if (l[z.toNat]?).any (fun s => !emptyS s) = true then 3 else 0
def putL (l : List Slot) (z : Int) (n : Node) : List Slot := if putErr l z n = 0 then l.modify z.toNat (setN n) else []
theorem nodeOk_path {n : Node} (h : nodeOk n = true) : n.path.length ≤ 8 := by
 simp only [nodeOk, Bool.and_eq_true, decide_eq_true_eq] at h
 exact h.1.2
theorem set_node (l : List Slot) (i : Nat) (n : Node) : setElem (l.map slotc) i 0 (nodec n) = (l.modify i (setN n)).map slotc := set_cells slotc (setN n) l i 0 _ fun _ _ => rfl
theorem s81 (l : List Slot) (h : FewS l) (z : Int) (n : Node) (hn : n.path.length < 2 ^ 63) : g81 (l.map slotc) z n.id.core n.id.op n.id.part (idCells n.path) n.cap.kind n.cap.base n.cap.bits n.cap.rights n.cap.width n.cap.level n.cap.device = some ((putL l z n).map slotc, putErr l z n) := by
 have hl : l.length < 2 ^ 63 := by have := h.len; omega
 obtain ⟨r, hf⟩ := s143 l hl n.id.core n.id.op n.id.part
 rw [g81_eq, hf, Option.bind_some]
 refine ite_goal (fun h1 => ?_) fun h1 => ite_goal (fun h2 => ?_) fun h2 => ?_
 ·simp only [CQ] at h1
  have he : putErr l z n = 1 := by rw [putErr, if_pos (.inl h1)]
  rw [putL, he]; rfl
 ·simp only [CQ, List.length_map] at h2
  have he : putErr l z n = 1 := by rw [putErr, if_pos (.inr (.inl h2))]
  rw [putL, he]; rfl
 simp only [CQ, List.length_map] at h1 h2
 rw [s125 n hn, Option.bind_some]
 refine ite_goal (fun h3 => ?_) fun h3 => ite_goal (fun h4 => ?_) fun h4 => ?_
 ·have he : putErr l z n = 1 := by rw [putErr, if_pos (.inr (.inr (.inl (by simpa using h3))))]
  rw [putL, he]; rfl
 ·have he : putErr l z n = 1 := by rw [putErr, if_pos (.inr (.inr (.inr h4)))]
  rw [putL, he]; rfl
 ·simp only [Bool.not_eq_true', Bool.not_eq_false] at h3
  have hno : ¬ (z < 0 ∨ (l.length : Int) ≤ z ∨ nodeOk n = false ∨ l.any (hitS n.id) = true) := by
   rintro (h | h | h | h)
   ·omega
   ·omega
   ·rw [h3] at h; cases h
   ·exact h4 h
  have hz : z = ((z.toNat : Nat) : Int) := by omega
  have hlt : z.toNat < l.length := by omega
  refine (elem_slot_at (by omega) hlt _).trans ?_
  simp only [slotV, d2, d4, d8, d16]
  rw [s144, Option.bind_some]
  have hat : l[z.toNat]? = some l[z.toNat] := List.getElem?_eq_getElem hlt
  refine ite_goal (fun h5 => ?_) fun h5 => ?_
  ·have he : putErr l z n = 3 := by rw [putErr, if_neg hno, if_pos (by rw [hat]; exact h5)]
   rw [putL, he]; rfl
  ·have he : putErr l z n = 0 := by rw [putErr, if_neg hno, if_neg (by rw [hat]; exact h5)]
   have hp := nodeOk_path h3
   rw [putL, he, s43 l h, Option.bind_some, s40 n (by omega), Option.bind_some, List.length_map]
   refine (reqK_pos (by omega) _).trans ?_
   refine (reqK_pos (by omega) _).trans ?_
   refine (reqK_pos (by omega) _).trans ?_
   refine (reqK_pos (by omega) _).trans ?_
   rw [if_pos rfl]
   exact congrArg (fun x => some (x, (0 : Int))) (set_node l z.toNat n)
end Go.Proofs.YthdihcchfjlgkaaGreat
end

section
namespace Go.Proofs.YthdihcchfjlgkaaGreat
open Go Go.AM
set_option linter.unusedSimpArgs false
set_option linter.unusedVariables false
set_option maxRecDepth 100000
def comc (c : Id × Bool) : List AV := [I c.1.core, I c.1.op, I c.1.part, B c.2]
theorem few_put {l : List Slot} (h : FewS l) (z : Int) (n : Node) : FewS (putL l z n) := by
 unfold putL
 split
 ·rename_i he
  have hok : nodeOk n = true := by
   unfold putErr at he
   split at he
   ·cases he
   ·rename_i hh
    cases hn : nodeOk n with
    | true => rfl
    | false => exact (hh (.inr (.inr (.inl hn)))).elim
  have hp := nodeOk_path hok
  refine ⟨by rw [List.length_modify]; exact h.len, fun s hs => ?_⟩
  obtain ⟨i, hi, rfl⟩ := List.getElem_of_mem hs
  rw [List.getElem_modify]
  split
  ·show n.path.length ≤ 20; omega
  ·exact h.path _ (List.getElem_mem _)
 ·exact ⟨by simp, by simp⟩
theorem s8 (x n : Int) (h1 : 1 ≤ n) (h2 : n < 2 ^ 62) : g8 x n = some (x % n) := by
 have e62 : (2 : Int) ^ 62 = 4611686018427387904 := by decide
 have hm0 := Int.emod_nonneg x (show n ≠ 0 by omega)
 have hm1 := Int.emod_lt_of_pos x (show 0 < n by omega)
 have ht : iop .rem .i64 x n = x.tmod n := rfl
 rw [g8_eq, if_neg (by simp only [CQ]; omega), reqK_pos (by omega), ht]
 have := Int.tmod_eq_emod (a := x) (b := n)
 by_cases hd : 0 ≤ x ∨ n ∣ x
 ·rw [if_pos hd] at this
  rw [if_neg (by simp only [CQ]; omega)]
  congr 1
  omega
 ·rw [if_neg hd] at this
  have habs : ((n.natAbs : Nat) : Int) = n := by omega
  have hne : x % n ≠ 0 := fun h => hd (.inr (Int.dvd_of_emod_eq_zero h))
  rw [if_pos (by simp only [CQ]; omega), add_i (by omega) (by omega)]
  congr 1
  omega
end Go.Proofs.YthdihcchfjlgkaaGreat
end

section
namespace Go.Proofs.YthdihcchfjlgkaaGreat
open Go Go.AM
set_option linter.unusedSimpArgs false
set_option linter.unusedVariables false
set_option maxRecDepth 100000
structure Step where
 root : Bool
 src : Int
 core : Int
 slot : Int
 kind : Int
 base : Int
 bits : Int
 count : Int
 rights : Int
 copy : Bool
def stepc (s : Step) : List AV := [B s.root, I s.src, I s.core, I s.slot, I s.kind, I s.base, I s.bits, I s.count, I s.rights, B s.copy]
theorem cellsS : Tryz.prog.cellsOf 79 = 10 := by kernel_rfl
theorem ty_step {d : Nat} {cs : List AV} (h : TyR Tryz.prog (d + 2) 79 cs) : ∃ s : Step, cs = stepc s := by
 rw [TyR] at h
 simp only [Tryz.underlying79] at h
 obtain ⟨ps, rfl, hl, hp⟩ := h
 obtain ⟨p0, p1, p2, p3, p4, p5, p6, p7, p8, p9, rfl⟩ : ∃ p0 p1 p2 p3 p4 p5 p6 p7 p8 p9, ps = [p0, p1, p2, p3, p4, p5, p6, p7, p8, p9] := by
  match ps, hl with
  | [p0, p1, p2, p3, p4, p5, p6, p7, p8, p9], _ => exact ⟨p0, p1, p2, p3, p4, p5, p6, p7, p8, p9, rfl⟩
 obtain ⟨a, rfl⟩ := ty_bool (hp 0 _ _ rfl rfl)
 obtain ⟨b, rfl⟩ := ty_int (hp 1 _ _ rfl rfl)
 obtain ⟨c, rfl⟩ := ty_int (hp 2 _ _ rfl rfl)
 obtain ⟨d, rfl⟩ := ty_int (hp 3 _ _ rfl rfl)
 obtain ⟨e, rfl⟩ := ty_int (hp 4 _ _ rfl rfl)
 obtain ⟨f, rfl⟩ := ty_int (hp 5 _ _ rfl rfl)
 obtain ⟨g, rfl⟩ := ty_int (hp 6 _ _ rfl rfl)
 obtain ⟨i, rfl⟩ := ty_int (hp 7 _ _ rfl rfl)
 obtain ⟨j, rfl⟩ := ty_int (hp 8 _ _ rfl rfl)
 obtain ⟨k, rfl⟩ := ty_bool (hp 9 _ _ rfl rfl)
 exact ⟨⟨a, b, c, d, e, f, g, i, j, k⟩, rfl⟩
theorem arg_steps {x : AV} (h : ArgTy Tryz.prog 12 50 x) : ∃ l : List Step, x = .slice false 10 (l.map stepc) ∧ l.length < 2 ^ 63 := by
 simp only [ArgTy, Tryz.underlying50] at h
 have hh := h.2
 rw [TyR] at hh
 simp only [Tryz.underlying50, cellsS] at hh
 obtain ⟨xs, h1, h2, h3⟩ := hh
 obtain ⟨l, rfl, h5⟩ := list_lift (f := stepc) (p := fun _ => True) xs fun y hy => (ty_step (h3 y hy)).elim fun a h => ⟨a, h, trivial⟩
 exact ⟨l, by simpa using h1, le63 (by simpa using h2)⟩
end Go.Proofs.YthdihcchfjlgkaaGreat
end

section
namespace Go.Proofs.YthdihcchfjlgkaaGreat
open Go Go.AM
set_option linter.unusedSimpArgs false
set_option linter.unusedVariables false
set_option maxRecDepth 100000
theorem s146 (a b : Int) : g146 a b = some (rngEnd a b) := by
 rw [g146_eq]
 simp only [s145, Option.bind_some]
 cases h : rngOk a b with
 | false => simp [rngEnd, h]
 | true =>
  obtain ⟨h1, h2, h3, h4, h5⟩ := rngOk_of h
  have hw : IntKind.wrap .u64 b = b := wrapu_of (by omega) (by omega)
  simp only [Bool.not_true, Bool.false_eq_true, if_false, hw]
  rw [reqK_pos (by omega), end_val h]
theorem s88 (a b c d : Int) : g88 a b c d = some (overB a b c d) := by
 rw [g88_eq]
 simp only [s145, s146, Option.bind_some]
 repeat' split
 all_goals (refine congrArg some ?_; rw [bool_iff]; simp only [overB, cop_lss_t, cop_lss_f, cop_leq_t, cop_leq_f, cop_gtr_t, cop_gtr_f, cop_geq_t, cop_geq_f, cop_eql_t, cop_eql_f, cop_neq_t, cop_neq_f, Bool.not_eq_true, Bool.not_eq_false, Bool.not_eq_true', Bool.not_eq_false', Bool.and_eq_true, Bool.or_eq_true, decide_eq_true_eq, decide_eq_false_iff_not, Bool.false_eq_true, Bool.true_eq_false, Option.bind_some, Option.some.injEq, false_iff, true_iff, iff_false, iff_true] at *; grind)
theorem s86 (a b c d : Int) : g86 a b c d = some (inB a b c d) := by
 rw [g86_eq]
 simp only [s145, s146, Option.bind_some]
 repeat' split
 all_goals (refine congrArg some ?_; rw [bool_iff]; simp only [inB, cop_lss_t, cop_lss_f, cop_leq_t, cop_leq_f, cop_gtr_t, cop_gtr_f, cop_geq_t, cop_geq_f, cop_eql_t, cop_eql_f, cop_neq_t, cop_neq_f, Bool.not_eq_true, Bool.not_eq_false, Bool.not_eq_true', Bool.not_eq_false', Bool.and_eq_true, Bool.or_eq_true, decide_eq_true_eq, decide_eq_false_iff_not, Bool.false_eq_true, Bool.true_eq_false, Option.bind_some, Option.some.injEq, false_iff, true_iff, iff_false, iff_true] at *; grind)
theorem s53 (k b s r w l : Int) (d : Bool) (m : Int) : g53 k b s r w l d m = some (k, b, s, iop .and .i64 r m, w, l, d) := g53_eq ..
end Go.Proofs.YthdihcchfjlgkaaGreat
end

section
namespace Go.Proofs.YthdihcchfjlgkaaGreat
open Go Go.AM
set_option linter.unusedSimpArgs false
set_option linter.unusedVariables false
set_option maxRecDepth 100000
theorem l54 {b r w l k s : Int} {d fl : Bool} {lv wd bits sz off obj cnt : Int} (hb : 0 ≤ b) (hoff : 0 ≤ off) (hsz : 0 ≤ sz) (hc : cnt ≤ 8) (hm : b + off + 8 * sz < 2 ^ 62) : ∀ (j i fuel : Nat), cnt = i + j → j < fuel →
  g54L0 fuel obj bits lv wd off cnt k b s r w l d fl sz (newCells obj (b + off) sz bits r (if fl = true then wd else 0) (if fl = true then lv else 0) d i) i = some (newCells obj (b + off) sz bits r (if fl = true then wd else 0) (if fl = true then lv else 0) d cnt.toNat, 0) := by
 intro j
 have e62 : (2 : Int) ^ 62 = 4611686018427387904 := by decide
 induction j with
 | zero =>
  intro i fuel h hf
  obtain ⟨f, rfl⟩ : ∃ f, fuel = f + 1 := ⟨fuel - 1, by omega⟩
  rw [g54L0_eq, if_neg (by simp only [cop_lss_t, cop_lss_f, cop_leq_t, cop_leq_f, cop_gtr_t, cop_gtr_f, cop_geq_t, cop_geq_f, cop_eql_t, cop_eql_f, cop_neq_t, cop_neq_f, Bool.not_eq_true, Bool.not_eq_false, Bool.not_eq_true', Bool.not_eq_false', Bool.and_eq_true, Bool.or_eq_true, decide_eq_true_eq, decide_eq_false_iff_not, Bool.false_eq_true, Bool.true_eq_false, Option.bind_some, Option.some.injEq, false_iff, true_iff, iff_false, iff_true]; omega)]
  have : cnt.toNat = i := by omega
  rw [this]
 | succ j ih =>
  intro i fuel h hf
  obtain ⟨f, rfl⟩ : ∃ f, fuel = f + 1 := ⟨fuel - 1, by omega⟩
  have hsi : (i : Int) * sz ≤ 8 * sz := Int.mul_le_mul_of_nonneg_right (by omega) hsz
  have hsi0 : 0 ≤ (i : Int) * sz := Int.mul_nonneg (by omega) hsz
  have a1 : iop .add .i64 b off = b + off := add_i (by omega) (by omega)
  have a2 : iop .mul .i64 i sz = i * sz := mul_i (by omega) (by omega)
  have a3 : iop .add .i64 (b + off) (i * sz) = b + off + i * sz := add_i (by omega) (by omega)
  have a4 : iop .add .i64 i 1 = ((i + 1 : Nat) : Int) := by rw [add_i (by omega) (by omega)]; omega
  have := ih (i + 1) f (by omega) (by omega)
  rw [newCells_succ] at this
  rw [g54L0_eq, if_pos (by simp only [cop_lss_t, cop_lss_f, cop_leq_t, cop_leq_f, cop_gtr_t, cop_gtr_f, cop_geq_t, cop_geq_f, cop_eql_t, cop_eql_f, cop_neq_t, cop_neq_f, Bool.not_eq_true, Bool.not_eq_false, Bool.not_eq_true', Bool.not_eq_false', Bool.and_eq_true, Bool.or_eq_true, decide_eq_true_eq, decide_eq_false_iff_not, Bool.false_eq_true, Bool.true_eq_false, Option.bind_some, Option.some.injEq, false_iff, true_iff, iff_false, iff_true]; omega)]
  cases fl
  ·simp only [Bool.false_eq_true, if_false] at this ⊢
   rw [reqK_pos (room_ok (by rw [newCells_len]; simp; omega)), a1, a2, a3, a4]
   exact this
  ·simp only [if_true] at this ⊢
   rw [reqK_pos (room_ok (by rw [newCells_len]; simp; omega)), a1, a2, a3, a4]
   exact this
set_option maxHeartbeats 4000000 in
theorem s54 (k b s r w l : Int) (d : Bool) (obj bits level width off cnt : Int) : g54 k b s r w l d obj bits level width off cnt =
  some (retCells ⟨k, b, s, r, w, l, d⟩ obj bits level width off cnt, retErr ⟨k, b, s, r, w, l, d⟩ obj bits level width off cnt) := by
 rw [g54_eq]
 simp only [s90, s91, s92, Option.bind_some]
 by_cases hh : capOk ⟨k, b, s, r, w, l, d⟩ = true ∧ k = 1 ∧ iop .and .i64 r 2 ≠ 0 ∧ sizeOk obj bits = true ∧ (obj = 3 → formOk width level = true) ∧ 1 ≤ cnt ∧ cnt ≤ 8 ∧ 0 ≤ off
 ·obtain ⟨h1, rfl, h3, h4, h5, h6, h7, h8⟩ := hh
  obtain ⟨n1, n2, n3, n4, n5, n6, n7, n8, n9, n10, n11, n12, n13, n14, n15, n16⟩ := ret_nums h1 h4 h6 h7 h8
  have q1 : (reqK ((0 : Int) ≤ bits) : Option (List (List AV) × Int) → _) = fun x => x := reqK_id n7
  have q2 : (reqK ((2 : Int) ^ bits.toNat ≠ 0) : Option (List (List AV) × Int) → _) = fun x => x := reqK_id n6
  have hw1 : IntKind.wrap .u64 bits = bits := wrapu_of n7 (by omega)
  have hw2 : IntKind.wrap .u64 s = s := wrapu_of n8 (by simp only at n16; omega)
  have q3 : (reqK ((0 : Int) ≤ s) : Option (List (List AV) × Int) → _) = fun x => x := reqK_id n8
  simp only at n3 n5
  have loop : ∀ fl : Bool, off + cnt * 2 ^ bits.toNat ≤ 2 ^ s.toNat → g54L0 FUEL obj bits level width off cnt 1 b s r w l d fl (2 ^ bits.toNat) [] 0 = some (newCells obj (b + off) (2 ^ bits.toNat) bits r (if fl = true then width else 0) (if fl = true then level else 0) d cnt.toNat, 0) := by
   intro fl hle
   have := l54 (fl := fl) (k := 1) (s := s) (r := r) (w := w) (l := l) (d := d) (lv := level) (wd := width) (bits := bits) (obj := obj) (cnt := cnt) n9 h8 (Int.le_of_lt n11) h7 (show b + off + 8 * 2 ^ bits.toNat < 2 ^ 62 by
    have e62 : (2 : Int) ^ 62 = 4611686018427387904 := by decide
    simp only at n10
    omega) cnt.toNat 0 FUEL (by omega) (fuel_lt (by omega))
   exact this
  have n9' : 0 ≤ b := n9
  have n10' : b + 2 ^ s.toNat ≤ 1099511627776 := n10
  have n5' : off ≤ 2 ^ s.toNat → iop .sub .i64 (2 ^ s.toNat) off = 2 ^ s.toNat - off := fun h => sub_i (by omega) (by omega)
  have hR : retErr ⟨1, b, s, r, w, l, d⟩ obj bits level width off cnt = if d = true ∧ obj ≠ 1 ∧ obj ≠ 2 then 5 else if off % 2 ^ bits.toNat ≠ 0 ∨ 2 ^ s.toNat - cnt * 2 ^ bits.toNat < off ∨ (obj = 1 ∧ s ≤ bits) then 6 else 0 := by
   rw [retErr, if_neg (by simp [h1]), if_neg h3, if_neg (by
    rintro (h | ⟨h, h'⟩ | h | h | h)
    ·rw [h4] at h; cases h
    ·rw [h5 h] at h'; cases h'
    ·omega
    ·omega
    ·omega)]
  have hk1 : cop .neq (1 : Int) 1 = false := rfl
  simp only [hw1, hw2, n1, n2, n3, n4, q1, q2, q3, h1, h4, hk1, Bool.not_true, Bool.false_eq_true, if_false]
  clear n1 n2 n3 n4 n5 q1 q2 q3
  by_cases e5 : d = true ∧ obj ≠ 1 ∧ obj ≠ 2
  ·rw [if_pos e5] at hR
   obtain ⟨hd, e1, e2⟩ := e5
   repeat' (with_reducible refine ite_goal (fun _ => ?_) (fun _ => ?_))
   all_goals first
    | exact ret_bad (by decide) hR
    | (exfalso; simp only [cop_lss_t, cop_lss_f, cop_leq_t, cop_leq_f, cop_gtr_t, cop_gtr_f, cop_geq_t, cop_geq_f, cop_eql_t, cop_eql_f, cop_neq_t, cop_neq_f, Bool.not_eq_true, Bool.not_eq_false, Bool.not_eq_true', Bool.not_eq_false', Bool.and_eq_true, Bool.or_eq_true, decide_eq_true_eq, decide_eq_false_iff_not, Bool.false_eq_true, Bool.true_eq_false, Option.bind_some, Option.some.injEq, false_iff, true_iff, iff_false, iff_true] at *; first | omega | grind)
  ·rw [if_neg e5] at hR
   by_cases e6 : off % 2 ^ bits.toNat ≠ 0 ∨ 2 ^ s.toNat - cnt * 2 ^ bits.toNat < off ∨ (obj = 1 ∧ s ≤ bits)
   ·rw [if_pos e6] at hR
    repeat' (with_reducible refine ite_goal (fun _ => ?_) (fun _ => ?_))
    all_goals first
     | exact ret_bad (by decide) hR
     | (exfalso; simp only [cop_lss_t, cop_lss_f, cop_leq_t, cop_leq_f, cop_gtr_t, cop_gtr_f, cop_geq_t, cop_geq_f, cop_eql_t, cop_eql_f, cop_neq_t, cop_neq_f, Bool.not_eq_true, Bool.not_eq_false, Bool.not_eq_true', Bool.not_eq_false', Bool.and_eq_true, Bool.or_eq_true, decide_eq_true_eq, decide_eq_false_iff_not, Bool.false_eq_true, Bool.true_eq_false, Option.bind_some, Option.some.injEq, false_iff, true_iff, iff_false, iff_true] at *; rw [n5' (by omega)] at *; first | omega | grind)
     | (exfalso; simp only [cop_lss_t, cop_lss_f, cop_leq_t, cop_leq_f, cop_gtr_t, cop_gtr_f, cop_geq_t, cop_geq_f, cop_eql_t, cop_eql_f, cop_neq_t, cop_neq_f, Bool.not_eq_true, Bool.not_eq_false, Bool.not_eq_true', Bool.not_eq_false', Bool.and_eq_true, Bool.or_eq_true, decide_eq_true_eq, decide_eq_false_iff_not, Bool.false_eq_true, Bool.true_eq_false, Option.bind_some, Option.some.injEq, false_iff, true_iff, iff_false, iff_true] at *; first | omega | grind)
   ·rw [if_neg e6] at hR
    have hL : ∀ fl, g54L0 FUEL obj bits level width off cnt 1 b s r w l d fl (2 ^ bits.toNat) [] 0 = some (newCells obj (b + off) (2 ^ bits.toNat) bits r (if fl = true then width else 0) (if fl = true then level else 0) d cnt.toNat, 0) := fun fl => loop fl (by omega)
    have n5 := n5' (by omega)
    simp only [hL, retCells, hR, if_true, n5]
    have hfl : (cop .eql obj 3 = true) = (obj = 3) := by simp only [cop_lss_t, cop_lss_f, cop_leq_t, cop_leq_f, cop_gtr_t, cop_gtr_f, cop_geq_t, cop_geq_f, cop_eql_t, cop_eql_f, cop_neq_t, cop_neq_f, Bool.not_eq_true, Bool.not_eq_false, Bool.not_eq_true', Bool.not_eq_false', Bool.and_eq_true, Bool.or_eq_true, decide_eq_true_eq, decide_eq_false_iff_not, Bool.false_eq_true, Bool.true_eq_false, Option.bind_some, Option.some.injEq, false_iff, true_iff, iff_false, iff_true]
    simp only [hfl]
    repeat' (with_reducible refine ite_goal (fun _ => ?_) (fun _ => ?_))
    all_goals first
     | rfl
     | (exfalso; simp only [cop_lss_t, cop_lss_f, cop_leq_t, cop_leq_f, cop_gtr_t, cop_gtr_f, cop_geq_t, cop_geq_f, cop_eql_t, cop_eql_f, cop_neq_t, cop_neq_f, Bool.not_eq_true, Bool.not_eq_false, Bool.not_eq_true', Bool.not_eq_false', Bool.and_eq_true, Bool.or_eq_true, decide_eq_true_eq, decide_eq_false_iff_not, Bool.false_eq_true, Bool.true_eq_false, Option.bind_some, Option.some.injEq, false_iff, true_iff, iff_false, iff_true] at *; first | omega | grind)
 ·repeat' (with_reducible refine ite_goal (fun _ => ?_) (fun _ => ?_))
  all_goals first
   | exact ret_bad (by decide) (by simp only [cop_lss_t, cop_lss_f, cop_leq_t, cop_leq_f, cop_gtr_t, cop_gtr_f, cop_geq_t, cop_geq_f, cop_eql_t, cop_eql_f, cop_neq_t, cop_neq_f, Bool.not_eq_true, Bool.not_eq_false, Bool.not_eq_true', Bool.not_eq_false', Bool.and_eq_true, Bool.or_eq_true, decide_eq_true_eq, decide_eq_false_iff_not, Bool.false_eq_true, Bool.true_eq_false, Option.bind_some, Option.some.injEq, false_iff, true_iff, iff_false, iff_true] at *; simp only [retErr]; grind)
   | (exfalso; simp only [cop_lss_t, cop_lss_f, cop_leq_t, cop_leq_f, cop_gtr_t, cop_gtr_f, cop_geq_t, cop_geq_f, cop_eql_t, cop_eql_f, cop_neq_t, cop_neq_f, Bool.not_eq_true, Bool.not_eq_false, Bool.not_eq_true', Bool.not_eq_false', Bool.and_eq_true, Bool.or_eq_true, decide_eq_true_eq, decide_eq_false_iff_not, Bool.false_eq_true, Bool.true_eq_false, Option.bind_some, Option.some.injEq, false_iff, true_iff, iff_false, iff_true] at *; grind)
end Go.Proofs.YthdihcchfjlgkaaGreat
end

section
namespace Go.Proofs.YthdihcchfjlgkaaGreat
open Go Go.AM
set_option linter.unusedSimpArgs false
set_option linter.unusedVariables false
set_option maxRecDepth 100000
def Ret {α : Type} (P : α → Prop) (o : Option α) : Prop := ∃ r, o = some r ∧ P r
theorem ret_some {α : Type} {P : α → Prop} {a : α} (h : P a) : Ret P (some a) := ⟨a, rfl, h⟩
theorem ret_bind {α β : Type} {P : β → Prop} {Q : α → Prop} {o : Option α} {f : α → Option β} (h : Ret Q o) (k : ∀ r, Q r → Ret P (f r)) : Ret P (o.bind f) := by
 obtain ⟨r, rfl, hr⟩ := h
 exact k r hr
theorem ret_ite {α : Type} {P : α → Prop} {c : Prop} {_ : Decidable c} {a b : Option α} (h1 : c → Ret P a) (h2 : ¬ c → Ret P b) : Ret P (if c then a else b) := by
 split
 ·exact h1 ‹_›
 ·exact h2 ‹_›
theorem ret_req {α : Type} {P : α → Prop} {p : Prop} {_ : Decidable p} {x : Option α} (h : p) (k : Ret P x) : Ret P (reqK p x) := by
 rw [reqK_pos h]; exact k
theorem ret_eq {α : Type} {P : α → Prop} {a b : Option α} (h : a = b) (k : Ret P b) : Ret P a := h ▸ k
theorem ret_bind_eq {α β : Type} {P : β → Prop} {o : Option α} {a : α} {f : α → Option β} (h : o = some a) (k : Ret P (f a)) : Ret P (o.bind f) := by
 subst h; exact k
theorem ret_loop {σ γ : Type} {P : γ → Prop} {F : Nat → σ → Int → Option γ} {n : Nat} (J : Nat → σ → Prop) (hn : n < 2 ^ 63)
  (step : ∀ (k i : Nat) (s : σ), i < n → J i s → (∀ s', J (i + 1) s' → Ret P (F k s' ((i + 1 : Nat) : Int))) → Ret P (F (k + 1) s (i : Int)))
  (last : ∀ (k : Nat) (s : σ), J n s → Ret P (F (k + 1) s (n : Int))) (s : σ) (h : J 0 s) : Ret P (F FUEL s 0) := by
 have key : ∀ (j i fuel : Nat) (s : σ), i + j = n → j < fuel → J i s → Ret P (F fuel s (i : Int)) := by
  intro j
  induction j with
  | zero =>
   intro i fuel s h hf hj
   obtain ⟨q, rfl⟩ : ∃ q, fuel = q + 1 := ⟨fuel - 1, by omega⟩
   have : i = n := by omega
   subst this
   exact last q s hj
  | succ j ih =>
   intro i fuel s h hf hj
   obtain ⟨q, rfl⟩ : ∃ q, fuel = q + 1 := ⟨fuel - 1, by omega⟩
   exact step q i s (by omega) hj fun s' hs => ih (i + 1) q s' (by omega) (by omega) hs
 exact key n 0 FUEL s (by omega) (by have := fuel63 hn; omega) h
theorem place (x n : Int) (h1 : 1 ≤ n) (h2 : n < 2 ^ 62) : Ret (fun r => 0 ≤ r ∧ r < n) (g8 x n) := ⟨_, s8 x n h1 h2, Int.emod_nonneg x (by omega), Int.emod_lt_of_pos x (by omega)⟩
theorem elem_ints_at {γ : Type} {P : γ → Prop} {l : List Int} {z : Int} {k : Int → Option γ} (h0 : 0 ≤ z) (h : z.toNat < l.length) (hk : Ret P (k l[z.toNat])) : Ret P (elemK (intCells l) z [.int .i64] k) := by
 have e : z = ((z.toNat : Nat) : Int) := by omega
 have := elem_ints h k
 rw [← e] at this
 exact ret_eq this hk
theorem elem_entries_at {γ : Type} {P : γ → Prop} {l : List Entry} {z : Int} {k : ShsT entrySh → Option γ} (h0 : 0 ≤ z) (h : z.toNat < l.length) (hk : Ret P (k (entryV l[z.toNat]))) : Ret P (elemK (l.map entryc) z entrySh k) := by
 have e : z = ((z.toNat : Nat) : Int) := by omega
 have := elem_entries h k
 rw [← e] at this
 exact ret_eq this hk
def capc (c : Cap) : List AV := [I c.kind, I c.base, I c.bits, I c.rights, I c.width, I c.level, B c.device]
abbrev capSh' : List Sh := [.int .i64, .int .i64, .int .i64, .int .i64, .int .i64, .int .i64, .bool]
def capV (c : Cap) : ShsT capSh' := (c.kind, c.base, c.bits, c.rights, c.width, c.level, c.device)
theorem elem_caps {γ : Type} {l : List Cap} {i : Nat} (h : i < l.length) (k : ShsT capSh' → Option γ) : elemK (l.map capc) (i : Int) capSh' k = k (capV l[i]) := elem_map (fun _ => rfl) h k
def atP {α : Type} (q : α → Bool) (p : List α) (i : Nat) : Bool := match p[i]? with | some x => q x | none => false
theorem atP_at {α : Type} (q : α → Bool) {p : List α} {i : Nat} (h : i < p.length) : atP q p i = q p[i] := by unfold atP; rw [List.getElem?_eq_getElem h]
def idE (i : Id) (e : Entry) : Bool := decide (e.node.id = i)
def plE (c s : Int) (e : Entry) : Bool := decide (e.core = c) && decide (e.slot = s)
theorem s85 (l : List Entry) (hn : l.length < 2 ^ 63) (j : Id) : g85 (l.map entryc) j.core j.op j.part = some (hitZ l.length (fst' (idE j) l)) := by
 rw [g85_eq]
 exact scan_stop (F := fun k z => g85L0 k (l.map entryc) j.core j.op j.part z) (n := l.length) (fun m => hitZ l.length m) (atP (idE j) l) hn
  (fun k i hi => by
   show g85L0 (k + 1) _ _ _ _ _ = _
   rw [g85L0_eq, List.length_map, if_pos (lss_t hi)]
   refine (elem_entries hi _).trans ?_
   simp only [entryV, d2, d4, d8, d16]
   rw [inc_i hi hn, atP_at _ hi, hitZ_lt hi, idE]
   refine ite_goal (fun h1 => ?_) fun h1 => ?_
   ·rw [if_pos (by rw [id_eqb] at h1; rw [decide_eq_true_eq]; exact h1)]
   ·rw [if_neg (by rw [id_eqb] at h1; rw [decide_eq_true_eq]; exact h1)])
  (fun k => by
   show g85L0 (k + 1) _ _ _ _ _ = _
   rw [g85L0_eq, List.length_map, if_neg (lss_f (Nat.le_refl _)), hitZ, if_neg (Nat.lt_irrefl _)]) (fst' (idE j) l) (fst_le _ l) (fun i hi => by
    have hl := fst_le (idE j) l
    rw [atP_at _ (by omega)]; exact fst_lt _ l i (by omega) hi) (fun h => by rw [atP_at _ h]; exact fst_at _ l h)
theorem s147 (l : List Entry) (hn : l.length < 2 ^ 63) (c s : Int) : g147 (l.map entryc) c s = some (hitZ l.length (fst' (plE c s) l)) := by
 rw [g147_eq]
 exact scan_stop (F := fun k z => g147L0 k (l.map entryc) c s z) (n := l.length) (fun m => hitZ l.length m) (atP (plE c s) l) hn
  (fun k i hi => by
   show g147L0 (k + 1) _ _ _ _ = _
   rw [g147L0_eq, List.length_map, if_pos (lss_t hi)]
   refine (elem_entries hi _).trans ?_
   simp only [entryV, d2, d4, d8, d16]
   rw [inc_i hi hn, atP_at _ hi, hitZ_lt hi, plE]
   refine ite_goal (fun h1 => ?_) fun h1 => ?_
   ·simp only [CQ] at h1
    refine (elem_entries hi _).trans ?_
    simp only [entryV, d2, d4, d8, d16]
    refine ite_goal (fun h2 => ?_) fun h2 => ?_
    ·simp only [CQ] at h2
     rw [if_pos (by simp [h1, h2])]
    ·simp only [CQ] at h2
     rw [if_neg (by simp [h2])]
   ·simp only [CQ] at h1
    rw [if_neg (by simp [h1])])
  (fun k => by
   show g147L0 (k + 1) _ _ _ _ = _
   rw [g147L0_eq, List.length_map, if_neg (lss_f (Nat.le_refl _)), hitZ, if_neg (Nat.lt_irrefl _)]) (fst' (plE c s) l) (fst_le _ l) (fun i hi => by
    have hl := fst_le (plE c s) l
    rw [atP_at _ (by omega)]; exact fst_lt _ l i (by omega) hi) (fun h => by rw [atP_at _ h]; exact fst_at _ l h)
structure FewE (l : List Entry) : Prop where
 len : l.length ≤ 100
 path : ∀ e ∈ l, e.node.path.length ≤ 20
theorem s148 (l : List Entry) (h : FewE l) : g148 (l.map entryc) = some (l.map entryc) := by
 rw [g148_eq]
 have hn : l.length < 2 ^ 63 := by have := h.len; omega
 refine (collect (F := fun k acc i => g148L0 k (l.map entryc) acc i) l (fun r => [entryc r]) hn (fun k i hi => ?_) (fun k acc i hi => ?_)).trans (by rw [flat_one])
 ·show g148L0 (k + 1) _ _ _ = _
  rw [g148L0_eq, List.length_map, if_pos (lss_t hi)]
  refine (elem_entries hi _).trans ?_
  simp only [entryV, d2, d4, d8, d16]
  refine (elem_entries hi _).trans ?_
  refine (elem_entries hi _).trans ?_
  have hp := h.path l[i] (List.getElem_mem hi)
  simp only [entryV, d2, d4, d8, d16]
  rw [s26 l[i].node (by omega), Option.bind_some]
  refine (reqK_pos (room_small ?_ (by omega)) _).trans ?_
  ·rw [flat_one]
   have := h.len
   simp only [List.length_map, List.length_take, List.length_append, List.length_cons, List.length_nil]
   omega
  ·rw [inc_i hi hn]
   rfl
 ·show g148L0 (k + 1) _ _ _ = _
  rw [g148L0_eq, List.length_map, if_neg (lss_f hi)]
def Adds (l : List Entry) (x : Entry) (r : List Entry) : Prop := ∃ i, i ≤ l.length ∧ (∀ j (h : j < l.length), j < i → lte x l[j] = false) ∧ (∀ h : i < l.length, lte x l[i] = true) ∧ l.any (idE x.node.id) = false ∧ l.any (plE x.core x.slot) = false ∧ r = l.take i ++ [x] ++ l.drop i
theorem hit_no {α : Type} (q : α → Bool) (l : List α) (h : ¬ cop .geq (hitZ l.length (fst' q l)) 0 = true) : l.any q = false := by
 rw [hitZ_geq, decide_eq_true_eq] at h
 rw [List.any_eq_false]
 intro x hx
 obtain ⟨i, hi, rfl⟩ := List.getElem_of_mem hx
 have := fst_lt q l i hi (by omega)
 simp [this]
theorem few_sub {l m : List Entry} (h : FewE l) (hs : ∀ e ∈ m, e ∈ l) (hl : m.length ≤ l.length) : FewE m := ⟨by have := h.len; omega, fun e he => h.path e (hs e he)⟩
theorem s89 (l : List Entry) (h : FewE l) (x : Entry) (hx : x.node.path.length ≤ 20) : Ret (fun r => r = (([] : LL), false) ∨ ∃ m, Adds l x m ∧ r = (m.map entryc, true)) (g89 (l.map entryc) x.core x.slot x.node.id.core x.node.id.op x.node.id.part (idCells x.node.path) x.node.cap.kind x.node.cap.base x.node.cap.bits x.node.cap.rights x.node.cap.width x.node.cap.level x.node.cap.device) := by
 have hn : l.length < 2 ^ 63 := by have := h.len; omega
 rw [g89_eq, s85 l hn x.node.id, Option.bind_some]
 refine ret_ite (fun _ => ret_some (.inl rfl)) fun h1 => ?_
 rw [s147 l hn, Option.bind_some]
 refine ret_ite (fun _ => ret_some (.inl rfl)) fun h2 => ?_
 have n1 := hit_no _ _ h1
 have n2 := hit_no _ _ h2
 have ins : ∀ (i : Nat), i ≤ l.length → (∀ j (h : j < l.length), j < i → lte x l[j] = false) → (∀ h : i < l.length, lte x l[i] = true) → Ret (fun r => r = (([] : LL), false) ∨ ∃ m, Adds l x m ∧ r = (m.map entryc, true)) (reqK ((0 : Int) ≤ (i : Int)) <| reqK ((i : Int) ≤ (List.length (l.map entryc) : Int)) <|
   (g148 (List.take (Int.toNat (i : Int)) (l.map entryc))).bind fun (r29 : LL) => (g26 x.node.id.core x.node.id.op x.node.id.part (idCells x.node.path) x.node.cap.kind x.node.cap.base x.node.cap.bits x.node.cap.rights x.node.cap.width x.node.cap.level x.node.cap.device).bind fun r30 =>
   reqK (roomP r29 (([] : LL) ++ [[I x.core, I x.slot, I r30.1, I r30.2.1, I r30.2.2.1, AV.slice false 3 r30.2.2.2.1, I r30.2.2.2.2.1, I r30.2.2.2.2.2.1, I r30.2.2.2.2.2.2.1, I r30.2.2.2.2.2.2.2.1, I r30.2.2.2.2.2.2.2.2.1, I r30.2.2.2.2.2.2.2.2.2.1, AV.val (.bool r30.2.2.2.2.2.2.2.2.2.2)]]) 120) <|
   reqK ((0 : Int) ≤ (i : Int)) <| reqK ((i : Int) ≤ (List.length (l.map entryc) : Int)) <| (g148 (List.drop (Int.toNat (i : Int)) (l.map entryc))).bind fun (r41 : LL) =>
   reqK (roomP (r29 ++ (([] : LL) ++ [[I x.core, I x.slot, I r30.1, I r30.2.1, I r30.2.2.1, AV.slice false 3 r30.2.2.2.1, I r30.2.2.2.2.1, I r30.2.2.2.2.2.1, I r30.2.2.2.2.2.2.1, I r30.2.2.2.2.2.2.2.1, I r30.2.2.2.2.2.2.2.2.1, I r30.2.2.2.2.2.2.2.2.2.1, AV.val (.bool r30.2.2.2.2.2.2.2.2.2.2)]])) r41 120) <|
   some (((r29 ++ (([] : LL) ++ [[I x.core, I x.slot, I r30.1, I r30.2.1, I r30.2.2.1, AV.slice false 3 r30.2.2.2.1, I r30.2.2.2.2.1, I r30.2.2.2.2.2.1, I r30.2.2.2.2.2.2.1, I r30.2.2.2.2.2.2.2.1, I r30.2.2.2.2.2.2.2.2.1, I r30.2.2.2.2.2.2.2.2.2.1, AV.val (.bool r30.2.2.2.2.2.2.2.2.2.2)]])) ++ r41), true)) := by
  intro i hi hlo hhi
  have hl := h.len
  refine ret_req (by omega) (ret_req (by rw [List.length_map]; omega) ?_)
  rw [Int.toNat_natCast, ← List.map_take, ← List.map_drop, s148 _ (few_sub h (fun e he => List.mem_of_mem_take he) (by simp; omega)), Option.bind_some, s26 x.node (by omega), Option.bind_some]
  refine ret_req (room_small (by simp; omega) (by omega)) (ret_req (by omega) (ret_req (by rw [List.length_map]; omega) ?_))
  rw [s148 _ (few_sub h (fun e he => List.mem_of_mem_drop he) (by simp)), Option.bind_some]
  refine ret_req (room_small (by simp; omega) (by omega)) (ret_some (.inr ⟨_, ⟨i, hi, hlo, hhi, n1, n2, rfl⟩, ?_⟩))
  simp [entryc, nodeV]
 refine ret_loop (F := fun k (_ : Unit) z => g89L0 k (l.map entryc) x.core x.slot x.node.id.core x.node.id.op x.node.id.part (idCells x.node.path) x.node.cap.kind x.node.cap.base x.node.cap.bits x.node.cap.rights x.node.cap.width x.node.cap.level x.node.cap.device z) (n := l.length) (fun i _ => ∀ j (h : j < l.length), j < i → lte x l[j] = false) hn (fun k i _ hi hJ ih => ?_) (fun k _ hJ => ?_) () (fun j _ h0 => absurd h0 (Nat.not_lt_zero _))
 ·show Ret _ (g89L0 (k + 1) _ _ _ _ _ _ _ _ _ _ _ _ _ _ _)
  rw [g89L0_eq, List.length_map, if_pos (lss_t hi)]
  refine ret_eq (elem_entries hi _) ?_
  simp only [entryV, d2, d4, d8, d16]
  rw [s25, Option.bind_some]
  refine ret_ite (fun hc => ?_) fun hc => ?_
  ·rw [inc_i hi hn]
   refine ih () fun j h1 h2 => ?_
   by_cases hji : j < i
   ·exact hJ j h1 hji
   ·have : j = i := by omega
    subst this
    rw [Bool.not_eq_true'] at hc
    exact hc
  ·have := ins i (by omega) hJ fun _ => by rw [Bool.not_eq_true', Bool.not_eq_false] at hc; exact hc
   rw [List.length_map] at this
   exact this
 ·show Ret _ (g89L0 (k + 1) _ _ _ _ _ _ _ _ _ _ _ _ _ _ _)
  rw [g89L0_eq, List.length_map, if_neg (lss_f (Nat.le_refl _))]
  have := ins l.length (Nat.le_refl _) hJ fun h => absurd h (Nat.lt_irrefl _)
  rw [List.length_map] at this
  exact this
theorem s52 (l : List Entry) (h : FewE l) (x : Entry) (hx : x.node.path.length ≤ 20) : Ret (fun r => ∃ m, (m = l ∨ Adds l x m) ∧ r = m.map entryc) (g52 (l.map entryc) x.core x.slot x.node.id.core x.node.id.op x.node.id.part (idCells x.node.path) x.node.cap.kind x.node.cap.base x.node.cap.bits x.node.cap.rights x.node.cap.width x.node.cap.level x.node.cap.device) := by
 rw [g52_eq]
 refine ret_bind (s89 l h x hx) fun r hr => ?_
 rcases hr with rfl | ⟨m, hm, rfl⟩
 ·exact ret_ite (fun _ => ret_some ⟨l, .inl rfl, rfl⟩) fun h => absurd rfl h
 ·exact ret_ite (fun h => absurd h (by simp)) fun _ => ret_some ⟨m, .inr hm, rfl⟩
structure ChildOk (s : Node) (i : Id) (c : Cap) : Prop where
 src : nodeOk s = true
 id : idOk i = true
 cap : capOk c = true
 ne : i ≠ s.id
 fresh : s.path.contains i = false
 room : s.path.length < 8
def childOf (s : Node) (i : Id) (c : Cap) : Node := ⟨i, s.path ++ [s.id], c⟩
theorem s55 (s : Node) (hs : s.path.length ≤ 20) (i : Id) (c : Cap) : Ret (fun r => (∃ e : Int, e ≠ 0 ∧ r = (0, 0, 0, ([] : LL), 0, 0, 0, 0, 0, 0, false, e)) ∨ (ChildOk s i c ∧ r = (i.core, i.op, i.part, idCells (s.path ++ [s.id]), c.kind, c.base, c.bits, c.rights, c.width, c.level, c.device, 0)))
  (g55 s.id.core s.id.op s.id.part (idCells s.path) s.cap.kind s.cap.base s.cap.bits s.cap.rights s.cap.width s.cap.level s.cap.device i.core i.op i.part c.kind c.base c.bits c.rights c.width c.level c.device) := by
 rw [g55_eq, s93 s (by omega), Option.bind_some]
 refine ret_ite (fun _ => ret_some (.inl ⟨1, by omega, rfl⟩)) fun h1 => ?_
 rw [s94, Option.bind_some]
 refine ret_ite (fun _ => ret_some (.inl ⟨1, by omega, rfl⟩)) fun h2 => ?_
 rw [s90, Option.bind_some]
 refine ret_ite (fun _ => ret_some (.inl ⟨1, by omega, rfl⟩)) fun h3 => ?_
 refine ret_ite (fun _ => ret_some (.inl ⟨1, by omega, rfl⟩)) fun h4 => ?_
 rw [id_eqb] at h4
 rw [s58 s.path (by omega), Option.bind_some]
 refine ret_ite (fun _ => ret_some (.inl ⟨1, by omega, rfl⟩)) fun h5 => ?_
 refine ret_ite (fun _ => ret_some (.inl ⟨9, by omega, rfl⟩)) fun h6 => ?_
 rw [s56 s.path (by omega), Option.bind_some]
 refine ret_req (room_small (by rw [ids_len]; simp; omega) (by omega)) (ret_some (.inr ⟨?_, ?_⟩))
 ·simp only [Bool.not_eq_true', Bool.not_eq_false] at h1 h2 h3
  simp only [Bool.not_eq_true] at h5
  have h8 := nodeOk_path h1
  simp only [CQ, ids_len] at h6
  exact ⟨h1, h2, h3, h4, h5, by omega⟩
 ·simp [idCells, idc]
end Go.Proofs.YthdihcchfjlgkaaGreat
end

section
namespace Go.Proofs.YthdihcchfjlgkaaGreat
open Go Go.AM
set_option linter.unusedSimpArgs false
set_option linter.unusedVariables false
set_option maxRecDepth 100000
theorem shl_i {a b : Int} (h0 : 0 ≤ b) (h1 : b ≤ 62) (h2 : 0 ≤ a) (h3 : a * 2 ^ b.toNat < 2 ^ 63) : iop .shl .i64 a b = a * 2 ^ b.toNat := by
 have hmin : min b.toNat IntKind.i64.bits = b.toNat := by
  have : IntKind.i64.bits = 64 := rfl
  omega
 simp only [iop, hmin]
 have hp := pow_pos2 b.toNat
 have : 0 ≤ a * 2 ^ b.toNat := Int.mul_nonneg h2 (by omega)
 rw [wrap_of (by omega) h3]
theorem s84 (a b : Int) : Ret (fun r => ∃ k q : Int, r = (q * 2 ^ k.toNat, k) ∧ 6 ≤ k ∧ k ≤ 16 ∧ 0 ≤ q ∧ q < 2 ^ (16 - k).toNat) (g84 a b) := by
 rw [g84_eq]
 refine ret_bind (place b 11 (by omega) (by omega)) fun x hx => ?_
 obtain ⟨k, hk⟩ : ∃ k, k = 6 + x := ⟨_, rfl⟩
 have e1 : iop .add .i64 6 x = k := by rw [add_i (by omega) (by omega), hk]
 have e2 : iop .sub .i64 16 k = 16 - k := sub_i (by omega) (by omega)
 have w1 : IntKind.wrap .u64 (16 - k) = 16 - k := wrapu_of (by omega) (by omega)
 have w2 : IntKind.wrap .u64 k = k := wrapu_of (by omega) (by omega)
 have hp : (2 : Int) ^ (16 - k).toNat < 2 ^ 62 := by
  have := pow_le2 (m := (16 - k).toNat) (n := 16) (by omega)
  have e : (2 : Int) ^ 16 = 65536 := by decide
  have e : (2 : Int) ^ 62 = 4611686018427387904 := by decide
  omega
 have hp1 := pow_pos2 (16 - k).toNat
 rw [e1, e2, w1, w2, shl1 (by omega)]
 refine ret_req (by omega) (ret_bind (place a _ (by omega) hp) fun q hq => ret_req (by omega) (ret_some ⟨k, q, ?_, by omega, by omega, hq.1, hq.2⟩))
 have hm : q * 2 ^ k.toNat < 2 ^ 63 := by
  have h1 : q * 2 ^ k.toNat ≤ 2 ^ (16 - k).toNat * 2 ^ k.toNat := Int.mul_le_mul_of_nonneg_right (by omega) (by have := pow_pos2 k.toNat; omega)
  rw [← Int.pow_add, show (16 - k).toNat + k.toNat = 16 by omega] at h1
  have e : (2 : Int) ^ 16 = 65536 := by decide
  have e : (2 : Int) ^ 63 = 9223372036854775808 := by decide
  omega
 rw [shl_i (by omega) (by omega) hq.1 hm]
theorem s50 (a b : Int) : Ret (fun r => ∃ c : Cap, r = capV c ∧ capOk c = true) (g50 a b) := by
 rw [g50_eq]
 refine ret_bind (s84 a b) fun r ⟨k, q, hr, h1, h2, h3, h4⟩ => ?_
 subst hr
 refine ret_some ⟨⟨1, q * 2 ^ k.toNat, k, 7, 0, 0, false⟩, rfl, ?_⟩
 have hm : (q + 1) * 2 ^ k.toNat ≤ 65536 := by
  have h5 : (q + 1) * 2 ^ k.toNat ≤ 2 ^ (16 - k).toNat * 2 ^ k.toNat := Int.mul_le_mul_of_nonneg_right (by omega) (by have := pow_pos2 k.toNat; omega)
  rw [← Int.pow_add, show (16 - k).toNat + k.toNat = 16 by omega] at h5
  have e : (2 : Int) ^ 16 = 65536 := by decide
  omega
 rw [Int.add_mul, Int.one_mul] at hm
 have h6 : 0 ≤ q * 2 ^ k.toNat := Int.mul_nonneg h3 (by have := pow_pos2 k.toNat; omega)
 have h7 : q * 2 ^ k.toNat % 2 ^ k.toNat = 0 := Int.mul_emod_left ..
 simp [capOk, sizeOk, rngOk, h6, h7]
 omega
theorem ret_caps (c : Cap) (obj bits level width off cnt : Int) : ∃ cs : List Cap, retCells c obj bits level width off cnt = cs.map capc ∧ (cs.length : Int) ≤ max 0 cnt := by
 unfold retCells
 split
 ·refine ⟨(List.range cnt.toNat).map fun (j : Nat) => ⟨obj, c.base + off + (j : Int) * 2 ^ bits.toNat, bits, c.rights, if obj = 3 then width else 0, if obj = 3 then level else 0, c.device⟩, ?_, by simp; omega⟩
  rw [List.map_map]; rfl
 ·exact ⟨[], rfl, by simp; omega⟩
theorem l51 (rec0 : List V → Option Bool) (l : List Entry) (hn : l.length < 2 ^ 63) (cs : List Cap) (m i : Nat) (hi : i < cs.length) (ih' : Ret (fun _ => True) (rec0 [.l (l.map entryc), .l (cs.map capc), .i (hitZ l.length m), .i (iop .add .i64 (i : Int) 1)])) :
  Ret (fun _ => True) (g51L0 rec0 FUEL (l.map entryc) (cs.map capc) (hitZ l.length m) (i : Int) 0) := by
 refine ret_loop (P := fun _ => True) (F := fun k2 (_ : Unit) z => g51L0 rec0 k2 (l.map entryc) (cs.map capc) (hitZ l.length m) (i : Int) z) (n := l.length) (fun _ _ => True) hn (fun k2 t _ ht _ ih2 => ?_) (fun k2 _ _ => ?_) () trivial
 ·show Ret _ (g51L0 _ (k2 + 1) _ _ _ _ _)
  rw [g51L0_eq, List.length_map, if_pos (lss_t ht)]
  refine ret_eq (elem_entries ht _) ?_
  simp only [entryV, d2, d4, d8, d16]
  have nxt : Ret (fun _ => True) (g51L0 rec0 k2 (l.map entryc) (cs.map capc) (hitZ l.length m) (i : Int) (iop .add .i64 (t : Int) 1)) := by rw [inc_i ht hn]; exact ih2 () trivial
  refine ret_ite (fun h1 => ?_) fun h1 => ?_
  ·rw [hitZ_geq, decide_eq_true_eq] at h1
   refine ret_ite (fun h2 => ?_) fun h2 => ?_
   ·rw [s87, Option.bind_some]
    refine ret_eq (congrArg (fun z => elemK (l.map entryc) z _ _) (hitZ_lt h1)) ?_
    refine ret_eq (elem_entries h1 _) ?_
    simp only [entryV, d2, d4, d8, d16]
    rw [s87, Option.bind_some, s86, Option.bind_some, Option.bind_some]
    refine ret_eq (elem_caps hi _) ?_
    simp only [capV]
    rw [s87, Option.bind_some, s88, Option.bind_some]
    exact ret_ite (fun _ => ret_ite (fun _ => ret_some trivial) fun _ => nxt) fun _ => nxt
   ·rw [s87, Option.bind_some]
    refine ret_eq (elem_caps hi _) ?_
    simp only [capV]
    rw [s87, Option.bind_some, s88, Option.bind_some]
    exact ret_ite (fun _ => ret_some trivial) fun _ => nxt
  ·rw [s87, Option.bind_some]
   refine ret_eq (elem_caps hi _) ?_
   simp only [capV]
   rw [s87, Option.bind_some, s88, Option.bind_some]
   exact ret_ite (fun _ => ret_some trivial) fun _ => nxt
 ·show Ret _ (g51L0 _ (k2 + 1) _ _ _ _ _)
  rw [g51L0_eq, List.length_map, if_neg (lss_f (Nat.le_refl _))]
  exact ih'
theorem s51 (l : List Entry) (hn : l.length < 2 ^ 63) (j : Id) (cs : List Cap) (hc : cs.length < 2 ^ 63) : Ret (fun _ => True) (g51 (l.map entryc) j.core j.op j.part (cs.map capc)) := by
 rw [g51_eq, s85 l hn j, Option.bind_some]
 generalize hm : fst' (idE j) l = m
 refine ret_loop (F := fun k (_ : Unit) z => g51L1 k (l.map entryc) (cs.map capc) (hitZ l.length m) z) (n := cs.length) (fun _ _ => True) hc (fun k i _ hi _ ih => ?_) (fun k _ _ => ?_) () trivial
 ·show Ret _ (g51L1 (k + 1) _ _ _ _)
  rw [g51L1_eq, List.length_map, if_pos (lss_t hi)]
  exact l51 _ l hn cs m i hi (by rw [inc_i hi hc]; exact ih () trivial)
 ·show Ret _ (g51L1 (k + 1) _ _ _ _)
  rw [g51L1_eq, List.length_map, if_neg (lss_f (Nat.le_refl _))]
  exact ret_some trivial
structure EOk (e : Entry) : Prop where
 c0 : 0 ≤ e.core
 c1 : e.core < 4
 s0 : 0 ≤ e.slot
 s1 : e.slot < 16
 ic : e.node.id.core = e.core
 o1 : 1 ≤ e.node.id.op
 o2 : e.node.id.op ≤ 40
 p0 : 0 ≤ e.node.id.part
 p1 : e.node.id.part < 3
 ok : nodeOk e.node = true
structure FOk (l : List Entry) (n : Nat) : Prop where
 len : l.length ≤ n
 all : ∀ e ∈ l, EOk e
 asc : l.Pairwise fun a b => lte a b = true
theorem nodeOk_of {n : Node} (h : nodeOk n = true) : idOk n.id = true ∧ capOk n.cap = true ∧ n.path.length ≤ 8 ∧ (List.range n.path.length).all (pathAt n) = true := by
 simp only [nodeOk, Bool.and_eq_true, decide_eq_true_eq] at h
 exact ⟨h.1.1.1, h.1.1.2, h.1.2, h.2⟩
theorem FOk.few {l : List Entry} {n : Nat} (h : FOk l n) (hn : n ≤ 100) : FewE l := ⟨by have := h.len; omega, fun e he => by have := (nodeOk_of (h.all e he).ok).2.2.1; omega⟩
theorem lte_lt {a b : Entry} : lte a b = true ↔ (a.node.id.core < b.node.id.core ∨ (a.node.id.core = b.node.id.core ∧ (a.node.id.op < b.node.id.op ∨ (a.node.id.op = b.node.id.op ∧ a.node.id.part < b.node.id.part)))) := by simp [lte, ltId, idLt]
theorem lte_trans {a b c : Entry} (h1 : lte a b = true) (h2 : lte b c = true) : lte a c = true := by
 rw [lte_lt] at *; omega
theorem lte_other {a b : Entry} (h : lte a b = false) (hne : a.node.id ≠ b.node.id) : lte b a = true := by
 rw [← Bool.not_eq_true, lte_lt] at h
 rw [lte_lt]
 have : ¬ (a.node.id.core = b.node.id.core ∧ a.node.id.op = b.node.id.op ∧ a.node.id.part = b.node.id.part) := fun ⟨e1, e2, e3⟩ => hne (by cases ha : a.node.id; cases hb : b.node.id; simp_all)
 omega
theorem adds_asc {l m : List Entry} {x : Entry} (h : l.Pairwise fun a b => lte a b = true) (ha : Adds l x m) : m.Pairwise fun a b => lte a b = true := by
 obtain ⟨i, hi, hlo, hhi, hid, _, rfl⟩ := ha
 have hge : ∀ j (hj : j < l.length), i ≤ j → lte x l[j] = true := by
  intro j hj hij
  have h1 : lte x (l[i]'(by omega)) = true := hhi (by omega)
  by_cases hji : j = i
  ·subst hji; exact h1
  ·exact lte_trans h1 (List.pairwise_iff_getElem.1 h i j (by omega) hj (by omega))
 rw [List.pairwise_append, List.pairwise_append]
 refine ⟨⟨h.take, List.pairwise_singleton .., fun a ha b hb => ?_⟩, h.drop, fun a ha b hb => ?_⟩
 ·rw [List.mem_singleton] at hb
  subst hb
  obtain ⟨j, hj, rfl⟩ := List.getElem_of_mem ha
  rw [List.length_take] at hj
  rw [List.getElem_take]
  refine lte_other (hlo j (by omega) (by omega)) fun he => ?_
  rw [List.any_eq_false] at hid
  have := hid _ (List.getElem_mem (show j < l.length by omega))
  rw [idE, decide_eq_true_eq] at this
  exact this he.symm
 ·obtain ⟨k, hk, rfl⟩ := List.getElem_of_mem hb
  rw [List.length_drop] at hk
  rw [List.getElem_drop]
  rw [List.mem_append, List.mem_singleton] at ha
  rcases ha with ha | rfl
  ·obtain ⟨j, hj, rfl⟩ := List.getElem_of_mem ha
   rw [List.length_take] at hj
   rw [List.getElem_take]
   exact List.pairwise_iff_getElem.1 h j (i + k) (by omega) (by omega) (by omega)
  ·exact hge (i + k) (by omega) (by omega)
theorem adds_ok {l m : List Entry} {x : Entry} {n : Nat} (h : FOk l n) (hx : EOk x) (ha : m = l ∨ Adds l x m) : FOk m (n + 1) := by
 rcases ha with rfl | ha
 ·exact ⟨by have := h.len; omega, h.all, h.asc⟩
 ·have hasc := adds_asc h.asc ha
  obtain ⟨i, hi, _, _, _, _, rfl⟩ := ha
  refine ⟨by have := h.len; simp; omega, fun e he => ?_, hasc⟩
  simp only [List.mem_append, List.mem_singleton] at he
  rcases he with (he | rfl) | he
  ·exact h.all e (List.mem_of_mem_take he)
  ·exact hx
  ·exact h.all e (List.mem_of_mem_drop he)
theorem root_ok (i : Id) (c : Cap) (hi : idOk i = true) (hc : capOk c = true) : nodeOk ⟨i, [], c⟩ = true := by simp [nodeOk, hi, hc]
theorem child_ok {s : Node} {i : Id} {c : Cap} (h : ChildOk s i c) : nodeOk (childOf s i c) = true := by
 obtain ⟨k1, k2, k3, k4⟩ := nodeOk_of h.src
 have hr := h.room
 simp only [nodeOk, childOf, Bool.and_eq_true, decide_eq_true_eq, h.id, h.cap, true_and, List.length_append, List.length_cons, List.length_nil]
 refine ⟨by omega, ?_⟩
 rw [List.all_eq_true] at k4 ⊢
 intro j hj
 rw [List.mem_range] at hj
 by_cases hjl : j < s.path.length
 ·have := k4 j (List.mem_range.2 hjl)
  simp only [pathAt, List.getElem?_eq_getElem hjl] at this
  simp only [pathAt, List.getElem?_append_left hjl, List.getElem?_eq_getElem hjl, List.take_append_of_le_length (Nat.le_of_lt hjl)]
  simp only [Bool.and_eq_true, decide_eq_true_eq] at this ⊢
  refine ⟨⟨this.1.1, fun he => ?_⟩, this.2⟩
  have hf := h.fresh
  rw [← he] at hf
  simp at hf
 ·have hje : j = s.path.length := by omega
  subst hje
  simp only [pathAt, List.getElem?_append_right (Nat.le_refl _), Nat.sub_self, List.getElem?_cons_zero, List.take_left]
  simp only [Bool.and_eq_true, decide_eq_true_eq]
  refine ⟨⟨k1, fun he => h.ne he.symm⟩, ?_⟩
  rw [Bool.not_eq_true', ← Bool.not_eq_true, List.contains_iff_mem]
  intro hm
  obtain ⟨t, ht, hte⟩ := List.getElem_of_mem hm
  have := k4 t (List.mem_range.2 ht)
  simp only [pathAt, List.getElem?_eq_getElem ht, hte] at this
  simp at this
theorem l20 (src : Node) (hs : src.path.length ≤ 20) (root : Bool) (op core slot : Int) (hc0 : 0 ≤ core) (hc1 : core < 4) (hs0 : 0 ≤ slot) (hs1 : slot < 8) (h1 : 1 ≤ op) (h2 : op ≤ 40) (cs : List Cap) (hcs : cs.length ≤ 3) (l : List Entry) (n : Nat) (hn : n ≤ 60) (h : FOk l n) :
  Ret (fun r => ∃ m, FOk m (n + 3) ∧ r = m.map entryc) (g20L0 FUEL (l.map entryc) op core slot src.id.core src.id.op src.id.part (idCells src.path) src.cap.kind src.cap.base src.cap.bits src.cap.rights src.cap.width src.cap.level src.cap.device (cs.map capc) 0) := by
 refine ret_loop (F := fun k (s : LL) z => g20L0 k s op core slot src.id.core src.id.op src.id.part (idCells src.path) src.cap.kind src.cap.base src.cap.bits src.cap.rights src.cap.width src.cap.level src.cap.device (cs.map capc) z) (n := cs.length) (fun i s => ∃ m, FOk m (n + i) ∧ s = m.map entryc) (by omega) (fun k i s hi hj ih => ?_) (fun k s hj => ?_) _ ⟨l, h, rfl⟩
 ·obtain ⟨m, hm, rfl⟩ := hj
  show Ret _ (g20L0 (k + 1) _ _ _ _ _ _ _ _ _ _ _ _ _ _ _ _ _)
  rw [g20L0_eq, List.length_map, if_pos (lss_t hi)]
  refine ret_eq (elem_caps hi _) ?_
  simp only [capV]
  refine ret_bind (s55 src hs ⟨core, op, (i : Int)⟩ cs[i]) fun r hr => ?_
  rcases hr with ⟨e, he, rfl⟩ | ⟨hk, rfl⟩
  ·refine ret_ite (fun _ => ret_some ⟨m, ⟨by have := hm.len; omega, hm.all, hm.asc⟩, rfl⟩) fun hh => ?_
   simp only [CQ] at hh
   exact absurd hh (by omega)
  ·refine ret_ite (fun hh => absurd hh (by simp [cop])) fun _ => ?_
   have ho := nodeOk_of (child_ok hk)
   have hx : EOk ⟨core, slot + i, childOf src ⟨core, op, (i : Int)⟩ cs[i]⟩ := ⟨hc0, hc1, by show 0 ≤ slot + i; omega, by show slot + i < 16; omega, rfl, h1, h2, by show (0 : Int) ≤ i; omega, by show (i : Int) < 3; omega, child_ok hk⟩
   have ea : iop .add .i64 slot (i : Int) = slot + i := add_i (by omega) (by omega)
   rw [ea]
   refine ret_bind (s52 m (hm.few (by omega)) ⟨core, slot + i, childOf src ⟨core, op, (i : Int)⟩ cs[i]⟩ (by have := ho.2.2.1; show (childOf src ⟨core, op, (i : Int)⟩ cs[i]).path.length ≤ 20; omega)) fun r ⟨m', hm', hr⟩ => ?_
   subst hr
   rw [inc_i hi (by omega)]
   exact ih _ ⟨m', adds_ok hm hx hm', rfl⟩
 ·obtain ⟨m, hm, rfl⟩ := hj
  show Ret _ (g20L0 (k + 1) _ _ _ _ _ _ _ _ _ _ _ _ _ _ _ _ _)
  rw [g20L0_eq, List.length_map, if_neg (lss_f (Nat.le_refl _))]
  exact ret_some ⟨m, ⟨by have := hm.len; omega, hm.all, hm.asc⟩, rfl⟩
theorem s20r (l : List Entry) (n : Nat) (hn : n ≤ 60) (h : FOk l n) (core slot op base bits : Int) (hc0 : 0 ≤ core) (hc1 : core < 4) (hs0 : 0 ≤ slot) (hs1 : slot < 8) (h1 : 1 ≤ op) (h2 : op ≤ 40) :
    Ret (fun r => ∃ m, FOk m (n + 3) ∧ r = m.map entryc) ((g50 base bits).bind fun r14 =>
 (g51 (l.map entryc) 0 0 0 (([] : LL) ++ [[I r14.1, I r14.2.1, I r14.2.2.1, I r14.2.2.2.1, I r14.2.2.2.2.1, I r14.2.2.2.2.2.1, AV.val (.bool r14.2.2.2.2.2.2)]])).bind fun (r21 : Bool) =>
 if r21 = true then some (l.map entryc) else
 (g52 (l.map entryc) core slot core op 0 ([] : LL) r14.1 r14.2.1 r14.2.2.1 r14.2.2.2.1 r14.2.2.2.2.1 r14.2.2.2.2.2.1 r14.2.2.2.2.2.2).bind fun (r22 : LL) => some (r22)) := by
  refine ret_bind (s50 base bits) fun r ⟨c, hr, hc⟩ => ?_
  subst hr
  have hl := h.len
  refine ret_bind (s51 l (by omega) ⟨0, 0, 0⟩ [c] (by simp)) fun b _ => ?_
  refine ret_ite (fun _ => ret_some ⟨l, ⟨by omega, h.all, h.asc⟩, rfl⟩) fun _ => ?_
  have hi : idOk ⟨core, op, 0⟩ = true := by simp [idOk]; omega
  have hx : EOk ⟨core, slot, ⟨⟨core, op, 0⟩, [], c⟩⟩ := ⟨hc0, hc1, hs0, by show slot < 16; omega, rfl, h1, h2, Int.le_refl _, by show (0 : Int) < 3; omega, root_ok _ _ hi hc⟩
  refine ret_bind (s52 l (h.few (by omega)) ⟨core, slot, ⟨⟨core, op, 0⟩, [], c⟩⟩ (by simp)) fun r ⟨m', hm', hr⟩ => ?_
  subst hr
  have := adds_ok h hx hm'
  exact ret_some ⟨m', ⟨by have := this.len; omega, this.all, this.asc⟩, rfl⟩
theorem s20 (l : List Entry) (n : Nat) (hn : n ≤ 60) (h : FOk l n) (root copy : Bool) (src core slot kind base bits count rights op : Int) (h1 : 1 ≤ op) (h2 : op ≤ 40) :
  Ret (fun r => ∃ m, FOk m (n + 3) ∧ r = m.map entryc) (g20 (l.map entryc) root src core slot kind base bits count rights copy op) := by
 have hl := h.len
 rw [g20_eq]
 refine ret_bind (place core 4 (by omega) (by omega)) fun c hc => ret_bind (place slot 8 (by omega) (by omega)) fun s hs => ?_
 refine ret_ite (fun _ => s20r l n hn h c s op base bits hc.1 hc.2 hs.1 hs.2 h1 h2) fun _ => ?_
 refine ret_ite (fun _ => s20r l n hn h c s op base bits hc.1 hc.2 hs.1 hs.2 h1 h2) fun h3 => ?_
 simp only [CQ, List.length_map] at h3
 rw [List.length_map]
 refine ret_bind (place src _ (by omega) (by omega)) fun i hi => ?_
 have hil : i.toNat < l.length := by omega
 refine elem_entries_at hi.1 hil ?_
 simp only [entryV, d2, d4, d8, d16]
 have he := h.all _ (List.getElem_mem hil)
 have ho := nodeOk_of he.ok
 generalize l[i.toNat] = e at he ho
 refine ret_bind (place rights 8 (by omega) (by omega)) fun r28 _ => ?_
 rw [s53, Option.bind_some]
 refine ret_ite (fun _ => ?_) fun _ => ?_
 ·refine ret_bind (place kind 6 (by omega) (by omega)) fun r36 h36 => ret_bind (place bits 10 (by omega) (by omega)) fun r37 h37 => ?_
  have e1 : iop .add .i64 6 r37 = 6 + r37 := add_i (by omega) (by omega)
  have e2 : iop .sub .i64 (iop .add .i64 1 r36) 1 = r36 := by rw [add_i (by omega) (by omega), sub_i (by omega) (by omega)]; omega
  rw [e1, e2]
  refine elem_ints_at (l := [6 + r37, 12, 12, 6, 10, 16]) h36.1 (by simp; omega) ?_
  have hb : ∀ x ∈ [6 + r37, 12, 12, 6, 10, 16], 0 ≤ x ∧ x ≤ 16 := by
   intro x hx
   simp only [List.mem_cons, List.not_mem_nil, or_false] at hx
   omega
  have hb' := hb _ (List.getElem_mem (show r36.toNat < [6 + r37, 12, 12, 6, 10, 16].length by simp; omega))
  generalize [6 + r37, 12, 12, 6, 10, 16][r36.toNat]'(by simp; omega) = r38 at hb'
  refine ret_bind (place rights 2 (by omega) (by omega)) fun r39 _ => ret_bind (place base 8 (by omega) (by omega)) fun r40 _ => ?_
  refine ret_req (by rw [wrapu_of (by omega) (by omega)]; omega) (ret_bind (place count 3 (by omega) (by omega)) fun r41 h41 => ?_)
  rw [s54, Option.bind_some]
  refine ret_ite (fun _ => ret_some ⟨l, ⟨by omega, h.all, h.asc⟩, rfl⟩) fun _ => ?_
  obtain ⟨cs, hcs, hcl⟩ := ret_caps ⟨e.node.cap.kind, e.node.cap.base, e.node.cap.bits, e.node.cap.rights, e.node.cap.width, e.node.cap.level, e.node.cap.device⟩ (iop .add .i64 1 r36) r38 r39 32 (iop .shl .i64 r40 (IntKind.wrap .u64 r38)) (iop .add .i64 1 r41)
  rw [hcs]
  have e3 : iop .add .i64 1 r41 = 1 + r41 := add_i (by omega) (by omega)
  rw [e3] at hcl
  refine ret_bind (s51 l (by omega) e.node.id cs (by omega)) fun b _ => ?_
  refine ret_ite (fun _ => ret_some ⟨l, ⟨by omega, h.all, h.asc⟩, rfl⟩) fun _ => ?_
  exact l20 e.node (by omega) true op c s hc.1 hc.2 hs.1 hs.2 h1 h2 cs (by omega) l n hn h
 ·exact l20 e.node (by omega) true op c s hc.1 hc.2 hs.1 hs.2 h1 h2 [⟨e.node.cap.kind, e.node.cap.base, e.node.cap.bits, iop .and .i64 e.node.cap.rights r28, e.node.cap.width, e.node.cap.level, e.node.cap.device⟩] (by simp) l n hn h
def stepV (s : Step) : Bool × Int × Int × Int × Int × Int × Int × Int × Int × Bool := (s.root, s.src, s.core, s.slot, s.kind, s.base, s.bits, s.count, s.rights, s.copy)
theorem elem_steps {γ : Type} {l : List Step} {i : Nat} (h : i < l.length) (k : (Bool × Int × Int × Int × Int × Int × Int × Int × Int × Bool) → Option γ) : elemK (l.map stepc) (i : Int) [.bool, .int .i64, .int .i64, .int .i64, .int .i64, .int .i64, .int .i64, .int .i64, .int .i64, .bool] k = k (stepV l[i]) := elem_map (f := stepc) (sh := [.bool, .int .i64, .int .i64, .int .i64, .int .i64, .int .i64, .int .i64, .int .i64, .int .i64, .bool]) (v := stepV) (fun _ => rfl) h k
theorem s7 (l : List Step) (hn : l.length < 2 ^ 63) : Ret (fun r => ∃ m, FOk m 30 ∧ r = m.map entryc) (g7 (l.map stepc)) := by
 rw [g7_eq]
 have key : ∀ (d i fuel : Nat) (m : List Entry), i + d = 41 → d < fuel → FOk m 30 → Ret (fun r => ∃ m, FOk m 30 ∧ r = m.map entryc) (g7L0 fuel (l.map stepc) (m.map entryc) (i : Int)) := by
  intro d
  induction d with
  | zero =>
   intro i fuel m hi hf hm
   obtain ⟨q, rfl⟩ : ∃ q, fuel = q + 1 := ⟨fuel - 1, by omega⟩
   rw [g7L0_eq]
   refine ret_ite (fun _ => ?_) fun _ => ret_some ⟨m, hm, rfl⟩
   rw [if_neg (by simp only [CQ]; omega)]
   exact ret_some ⟨m, hm, rfl⟩
  | succ d ih =>
   intro i fuel m hi hf hm
   obtain ⟨q, rfl⟩ : ∃ q, fuel = q + 1 := ⟨fuel - 1, by omega⟩
   rw [g7L0_eq]
   refine ret_ite (fun h1 => ?_) fun _ => ret_some ⟨m, hm, rfl⟩
   refine ret_ite (fun h2 => ?_) fun _ => ret_some ⟨m, hm, rfl⟩
   refine ret_ite (fun h3 => ?_) fun _ => ret_some ⟨m, hm, rfl⟩
   simp only [CQ, List.length_map] at h1 h2 h3
   have hil : i < l.length := by omega
   refine ret_eq (elem_steps hil _) ?_
   simp only [stepV]
   have e : iop .add .i64 (i : Int) 1 = ((i + 1 : Nat) : Int) := inc_i hil hn
   rw [e]
   refine ret_bind (s20 m 27 (by omega) ⟨by omega, hm.all, hm.asc⟩ _ _ _ _ _ _ _ _ _ _ _ (by omega) (by omega)) fun r ⟨m', hm', hr⟩ => ?_
   subst hr
   exact ih (i + 1) q m' (by omega) (by omega) hm'
 exact key 41 0 FUEL [] rfl (by have := @fuel63 41 (by omega); omega) ⟨by simp, by simp, List.Pairwise.nil⟩
end Go.Proofs.YthdihcchfjlgkaaGreat
end

section
namespace Go.Proofs.YthdihcchfjlgkaaGreat
open Go Go.AM
set_option linter.unusedSimpArgs false
set_option linter.unusedVariables false
set_option maxRecDepth 100000
structure SOk (l : List Entry) (s : List Slot) : Prop where
 len : s.length = 12
 spot : ∀ t (h : t < s.length), s[t].op = 0 ∧ s[t].lock = zid ∧ (s[t].node = noNode ∨ ∃ e ∈ l, e.slot = (t : Int) ∧ s[t].node = e.node)
theorem SOk.all {l : List Entry} {s : List Slot} (h : SOk l s) : ∀ x ∈ s, x.op = 0 ∧ x.lock = zid ∧ (x.node = noNode ∨ ∃ e ∈ l, x.node = e.node) := by
 intro x hx
 obtain ⟨t, ht, rfl⟩ := List.getElem_of_mem hx
 obtain ⟨h1, h2, h3⟩ := h.spot t ht
 exact ⟨h1, h2, h3.imp id fun ⟨e, he, _, hn⟩ => ⟨e, he, hn⟩⟩
theorem SOk.few {l : List Entry} {s : List Slot} {n : Nat} (h : SOk l s) (hf : FOk l n) : FewS s := by
 refine ⟨by have := h.len; omega, fun x hx => ?_⟩
 rcases (h.all x hx).2.2 with e | ⟨e, he, hne⟩
 ·rw [e]; simp [noNode]
 ·have := (nodeOk_of (hf.all e he).ok).2.2.1
  rw [hne]; omega
theorem s12 (l : List Entry) (n : Nat) (hn : n ≤ 60) (hf : FOk l n) (c : Int) : Ret (fun r => ∃ s, SOk l s ∧ r = s.map slotc) (g12 (l.map entryc) c) := by
 have hl := hf.len
 rw [g12_eq]
 refine ret_req (by decide) (ret_req (by decide) (ret_req (by decide) ?_))
 refine ret_loop (F := fun k (s : LL) z => g12L0 k (l.map entryc) c s z) (n := l.length) (fun i s => ∃ s', SOk l s' ∧ s = s'.map slotc) (by omega) (fun k i s hi hj ih => ?_) (fun k s hj => ?_) _ ⟨List.replicate 12 ⟨noNode, 0, zid⟩, ⟨rfl, fun t ht => ?_⟩, rfl⟩
 ·obtain ⟨s, hs, rfl⟩ := hj
  show Ret _ (g12L0 (k + 1) _ _ _ _)
  rw [g12L0_eq, List.length_map, if_pos (lss_t hi)]
  refine ret_eq (elem_entries hi _) ?_
  simp only [entryV, d2, d4, d8, d16]
  have nxt : Ret (fun r => ∃ s, SOk l s ∧ r = s.map slotc) (g12L0 k (l.map entryc) c (s.map slotc) (iop .add .i64 (i : Int) 1)) := by rw [inc_i hi (by omega)]; exact ih _ ⟨s, hs, rfl⟩
  refine ret_ite (fun _ => ?_) fun _ => nxt
  refine ret_eq (elem_entries hi _) ?_
  simp only [entryV, d2, d4, d8, d16]
  refine ret_ite (fun h1 => ?_) fun _ => nxt
  simp only [CQ] at h1
  refine ret_eq (elem_entries hi _) ?_
  simp only [entryV, d2, d4, d8, d16]
  refine ret_eq (elem_entries hi _) ?_
  simp only [entryV, d2, d4, d8, d16]
  have he := hf.all _ (List.getElem_mem hi)
  have hp := (nodeOk_of he.ok).2.2.1
  rw [s26 l[i].node (by omega), Option.bind_some]
  have h0 := he.s0
  have hsl := hs.len
  refine ret_req (by omega) (ret_req (by rw [List.length_map]; omega) (ret_req (by omega) (ret_req (by rw [List.length_map]; omega) ?_)))
  rw [inc_i hi (by omega)]
  refine ih _ ⟨s.modify l[i].slot.toNat (setN l[i].node), ⟨by rw [List.length_modify]; exact hsl, fun t ht => ?_⟩, set_node s _ l[i].node⟩
  rw [List.length_modify] at ht
  rw [List.getElem_modify]
  have ha := hs.spot t ht
  split
  ·exact ⟨ha.1, ha.2.1, .inr ⟨l[i], List.getElem_mem hi, by omega, rfl⟩⟩
  ·exact ha
 ·obtain ⟨s, hs, rfl⟩ := hj
  show Ret _ (g12L0 (k + 1) _ _ _ _)
  rw [g12L0_eq, List.length_map, if_neg (lss_f (Nat.le_refl _))]
  exact ret_some ⟨s, hs, rfl⟩
 ·rw [List.getElem_replicate]
  exact ⟨rfl, rfl, .inl rfl⟩
theorem neq_f {a b : Int} (h : a = b) : ¬ cop .neq a b = true := by simp only [CQ]; exact fun g => g h
end Go.Proofs.YthdihcchfjlgkaaGreat
end

section
namespace Go.Proofs.YthdihcchfjlgkaaGreat
open Go Go.AM
set_option linter.unusedSimpArgs false
set_option linter.unusedVariables false
set_option maxRecDepth 100000
theorem ret_turns {σ γ : Type} {P : γ → Prop} {F : Nat → σ → Int → Option γ} (n : Nat) (J : Nat → σ → Prop) (hn : n < 1000)
  (step : ∀ (k i : Nat) (s : σ), i ≤ n → J i s → (i < n → ∀ s', J (i + 1) s' → Ret P (F k s' ((i + 1 : Nat) : Int))) → Ret P (F (k + 1) s (i : Int))) (s : σ) (h : J 0 s) : Ret P (F FUEL s 0) := by
 refine ret_loop (F := F) (n := n) J (by omega) (fun k i s hi hj ih => step k i s (by omega) hj fun _ => ih) (fun k s hj => step k n s (Nat.le_refl _) hj fun h => absurd h (Nat.lt_irrefl _)) s h
theorem inc_n {i n : Nat} (h : i ≤ n) (hn : n < 1000) : iop .add .i64 (i : Int) 1 = ((i + 1 : Nat) : Int) := by
 rw [add_i (by omega) (by omega)]; omega
end Go.Proofs.YthdihcchfjlgkaaGreat
end
