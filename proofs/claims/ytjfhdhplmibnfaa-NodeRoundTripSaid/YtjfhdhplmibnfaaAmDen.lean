/- What symbolic values and trees mean. Generic: no program stands in it. -/
import Derived.Test.YtjfhdhplmibnfaaAmSym
namespace Go.AM

/-- What a variable stands for. -/
inductive V where
  | i (z : Int)
  | b (b : Bool)
  | s (s : ByteArray)
  | l (xs : List (List AV))

def V.int : V → Int
  | .i z => z
  | _ => 0
def V.bool : V → Bool
  | .b z => z
  | _ => false
def V.str : V → ByteArray
  | .s z => z
  | _ => ⟨#[]⟩
def V.list : V → List (List AV)
  | .l xs => xs
  | _ => []

def toByte : List AV → Option UInt8
  | [.val (.int .u8 n)] => some (UInt8.ofNat n.toNat)
  | _ => none

/-- The bytes of a slice of bytes. -/
def bytesOf (xs : List (List AV)) : ByteArray := ⟨(xs.map fun e => (toByte e).getD 0).toArray⟩

def iop (op : IOp) (k : IntKind) (a b : Int) : Int :=
  match op with
  | .add => k.wrap (a + b)
  | .sub => k.wrap (a - b)
  | .mul => k.wrap (a * b)
  | .quo => k.wrap (a.tdiv b)
  | .rem => a.tmod b
  | .and => k.wrap (BitVec.ofInt k.bits a &&& BitVec.ofInt k.bits b).toNat
  | .or => k.wrap (BitVec.ofInt k.bits a ||| BitVec.ofInt k.bits b).toNat
  | .xor => k.wrap (BitVec.ofInt k.bits a ^^^ BitVec.ofInt k.bits b).toNat
  | .andNot => k.wrap (BitVec.ofInt k.bits a &&& ~~~BitVec.ofInt k.bits b).toNat
  | .shl => k.wrap (a * 2 ^ (min b.toNat k.bits))
  | .shr => a.fdiv (2 ^ (min b.toNat k.bits))
  | .min => min a b
  | .max => max a b

def cop (op : COp) (a b : Int) : Bool :=
  match op with
  | .eql => a == b
  | .neq => a != b
  | .lss => decide (a < b)
  | .leq => decide (a ≤ b)
  | .gtr => decide (a > b)
  | .geq => decide (a ≥ b)

/-- Cells laid into an element; a list laid over the front of another. -/
def setCells (x : List AV) (o : Nat) (e : List AV) : List AV := x.take o ++ e ++ x.drop (o + e.length)
def setElem (l : List (List AV)) (i o : Nat) (e : List AV) : List (List AV) := l.modify i fun x => setCells x o e
def splL (l a : List (List AV)) : List (List AV) := a.take l.length ++ l.drop a.length

mutual
def IE.den (ρ : Nat → V) : IE → Int
  | .var n => (ρ n).int
  | .lit z => z
  | .bin op k a b => iop op k (a.den ρ) (b.den ρ)
  | .conv k a => k.wrap (a.den ρ)
  | .len l => ((l.den ρ).length : Int)
  | .slen s => ((s.den ρ).size : Int)
  | .getc s i => (((s.den ρ).data.toList.getD (i.den ρ).toNat 0).toNat : Int)
def BE.den (ρ : Nat → V) : BE → Bool
  | .var n => (ρ n).bool
  | .lit b => b
  | .cmp op a b => cop op (a.den ρ) (b.den ρ)
  | .beq a b => a.den ρ == b.den ρ
  | .seq a b => (a.den ρ).toList == (b.den ρ).toList
  | .and a b => a.den ρ && b.den ρ
  | .not a => !a.den ρ
def SE.den (ρ : Nat → V) : SE → ByteArray
  | .var n => (ρ n).str
  | .lit s => s
  | .bytes l => bytesOf (l.den ρ)
def LE.den (ρ : Nat → V) : LE → List (List AV)
  | .var n => (ρ n).list
  | .nil => []
  | .snoc l e => l.den ρ ++ [e.den ρ]
  | .app a b => a.den ρ ++ b.den ρ
  | .take l i => (l.den ρ).take (i.den ρ).toNat
  | .drop l i => (l.den ρ).drop (i.den ρ).toNat
  | .rep i e => List.replicate (i.den ρ).toNat (e.den ρ)
  | .setAt l i o e => setElem (l.den ρ) (i.den ρ).toNat o (e.den ρ)
  | .spl l a => splL (l.den ρ) (a.den ρ)
def CE.den (ρ : Nat → V) : CE → List AV
  | .nil => []
  | .cons c r => c.den ρ :: r.den ρ
def SC.den (ρ : Nat → V) : SC → AV
  | .int k e => .val (.int k (e.den ρ))
  | .bool b => .val (.bool (b.den ρ))
  | .str s => .val (.string (s.den ρ))
  | .slice f s l => .slice f s (l.den ρ)
end

def TC.den (ρ : Nat → V) : TC → AV
  | .c x => x.den ρ
  | .agg cs => .agg (cs.map (SC.den ρ))
  | .own e l => .own e (l.den ρ)

def BC.den (ρ : Nat → V) : BC → AV
  | .c x => x.den ρ
  | .own e l => .own e (l.den ρ)
  | .row e n cp l => .row e (n.den ρ).toNat (cp.den ρ).toNat (l.den ρ)

def SV.den (ρ : Nat → V) : SV → AV
  | .dead => .dead
  | .gone => .gone
  | .c x => x.den ρ
  | .agg cs => .agg (cs.map (SC.den ρ))
  | .tuple vs => .tuple (vs.map (TC.den ρ))
  | .own e l => .own e (l.den ρ)
  | .box cs => .box (cs.map (BC.den ρ))
  | .ptr d off => .ptr d off
  | .eptr cs => .eptr (cs.map (SC.den ρ))
  | .mref d => .mref d
  | .rptr d i s o => .ptr d ((i.den ρ).toNat * s + o)

def roomMax : Nat := 1099511627776

def PE.den (ρ : Nat → V) : PE → Prop
  | .le a b => a.den ρ ≤ b.den ρ
  | .lt a b => a.den ρ < b.den ρ
  | .make a k => 0 ≤ a.den ρ ∧ (a.den ρ).toNat * (k + 1) ≤ roomMax
  | .ne0 a => a.den ρ ≠ 0
  | .bytes l => ∀ e ∈ l.den ρ, ∃ n : Int, 0 ≤ n ∧ n ≤ 255 ∧ e = [.val (.int .u8 n)]
  | .room a b k => ((a.den ρ).length + (b.den ρ).length) * (k + 1) ≤ roomMax
  | .cons l => l.den ρ ≠ []

def VE.den (ρ : Nat → V) : VE → V
  | .i e => .i (e.den ρ)
  | .b e => .b (e.den ρ)
  | .s e => .s (e.den ρ)
  | .l e => .l (e.den ρ)

def zeroE : Nat → V := fun _ => .i 0

def bind (ρ : Nat → V) (n : Nat) (vs : List V) : Nat → V := fun m => if m < n then ρ m else (vs[m - n]?).getD (ρ m)

mutual
def IE.bd (n : Nat) : IE → Prop
  | .var m => m < n
  | .lit _ => True
  | .bin _ _ a b => a.bd n ∧ b.bd n
  | .conv _ a => a.bd n
  | .len l => l.bd n
  | .slen s => s.bd n
  | .getc s i => s.bd n ∧ i.bd n
def BE.bd (n : Nat) : BE → Prop
  | .var m => m < n
  | .lit _ => True
  | .cmp _ a b => a.bd n ∧ b.bd n
  | .beq a b => a.bd n ∧ b.bd n
  | .seq a b => a.bd n ∧ b.bd n
  | .and a b => a.bd n ∧ b.bd n
  | .not a => a.bd n
def SE.bd (n : Nat) : SE → Prop
  | .var m => m < n
  | .lit _ => True
  | .bytes l => l.bd n
def LE.bd (n : Nat) : LE → Prop
  | .var m => m < n
  | .nil => True
  | .snoc l e => l.bd n ∧ e.bd n
  | .app a b => a.bd n ∧ b.bd n
  | .take l i => l.bd n ∧ i.bd n
  | .drop l i => l.bd n ∧ i.bd n
  | .rep i e => i.bd n ∧ e.bd n
  | .setAt l i _ e => l.bd n ∧ i.bd n ∧ e.bd n
  | .spl l a => l.bd n ∧ a.bd n
def CE.bd (n : Nat) : CE → Prop
  | .nil => True
  | .cons c r => c.bd n ∧ r.bd n
def SC.bd (n : Nat) : SC → Prop
  | .int _ e => e.bd n
  | .bool b => b.bd n
  | .str s => s.bd n
  | .slice _ _ l => l.bd n
end

def TC.bd (n : Nat) : TC → Prop
  | .c x => x.bd n
  | .agg cs => ∀ c ∈ cs, c.bd n
  | .own _ l => l.bd n

def BC.bd (n : Nat) : BC → Prop
  | .c x => x.bd n
  | .own _ l => l.bd n
  | .row _ m cp l => m.bd n ∧ cp.bd n ∧ l.bd n

def SV.bd (n : Nat) : SV → Prop
  | .dead => True
  | .gone => True
  | .c x => x.bd n
  | .agg cs => ∀ c ∈ cs, c.bd n
  | .tuple vs => ∀ c ∈ vs, c.bd n
  | .own _ l => l.bd n
  | .box cs => ∀ c ∈ cs, c.bd n
  | .ptr _ _ => True
  | .eptr cs => ∀ c ∈ cs, c.bd n
  | .mref _ => True
  | .rptr _ i _ _ => i.bd n

def VE.bd (n : Nat) : VE → Prop
  | .i e => e.bd n
  | .b e => e.bd n
  | .s e => e.bd n
  | .l e => e.bd n

mutual
theorem IE.den_congr {n : Nat} {ρ ρ' : Nat → V} (hρ : ∀ m, m < n → ρ' m = ρ m) : ∀ (x : IE), x.bd n → x.den ρ' = x.den ρ
  | .var m, h => by simp only [IE.den, hρ m h]
  | .lit _, _ => rfl
  | .bin _ _ a b, h => by simp only [IE.den, IE.den_congr hρ a h.1, IE.den_congr hρ b h.2]
  | .conv _ a, h => by simp only [IE.den, IE.den_congr hρ a h]
  | .len l, h => by simp only [IE.den, LE.den_congr hρ l h]
  | .slen s, h => by simp only [IE.den, SE.den_congr hρ s h]
  | .getc s i, h => by simp only [IE.den, SE.den_congr hρ s h.1, IE.den_congr hρ i h.2]
theorem BE.den_congr {n : Nat} {ρ ρ' : Nat → V} (hρ : ∀ m, m < n → ρ' m = ρ m) : ∀ (x : BE), x.bd n → x.den ρ' = x.den ρ
  | .var m, h => by simp only [BE.den, hρ m h]
  | .lit _, _ => rfl
  | .cmp _ a b, h => by simp only [BE.den, IE.den_congr hρ a h.1, IE.den_congr hρ b h.2]
  | .beq a b, h => by simp only [BE.den, BE.den_congr hρ a h.1, BE.den_congr hρ b h.2]
  | .seq a b, h => by simp only [BE.den, SE.den_congr hρ a h.1, SE.den_congr hρ b h.2]
  | .and a b, h => by simp only [BE.den, BE.den_congr hρ a h.1, BE.den_congr hρ b h.2]
  | .not a, h => by simp only [BE.den, BE.den_congr hρ a h]
theorem SE.den_congr {n : Nat} {ρ ρ' : Nat → V} (hρ : ∀ m, m < n → ρ' m = ρ m) : ∀ (x : SE), x.bd n → x.den ρ' = x.den ρ
  | .var m, h => by simp only [SE.den, hρ m h]
  | .lit _, _ => rfl
  | .bytes l, h => by simp only [SE.den, LE.den_congr hρ l h]
theorem LE.den_congr {n : Nat} {ρ ρ' : Nat → V} (hρ : ∀ m, m < n → ρ' m = ρ m) : ∀ (x : LE), x.bd n → x.den ρ' = x.den ρ
  | .var m, h => by simp only [LE.den, hρ m h]
  | .nil, _ => rfl
  | .snoc l e, h => by simp only [LE.den, LE.den_congr hρ l h.1, CE.den_congr hρ e h.2]
  | .app a b, h => by simp only [LE.den, LE.den_congr hρ a h.1, LE.den_congr hρ b h.2]
  | .take l i, h => by simp only [LE.den, LE.den_congr hρ l h.1, IE.den_congr hρ i h.2]
  | .drop l i, h => by simp only [LE.den, LE.den_congr hρ l h.1, IE.den_congr hρ i h.2]
  | .rep i e, h => by simp only [LE.den, IE.den_congr hρ i h.1, CE.den_congr hρ e h.2]
  | .setAt l i o e, h => by simp only [LE.den, LE.den_congr hρ l h.1, IE.den_congr hρ i h.2.1, CE.den_congr hρ e h.2.2]
  | .spl l a, h => by simp only [LE.den, LE.den_congr hρ l h.1, LE.den_congr hρ a h.2]
theorem CE.den_congr {n : Nat} {ρ ρ' : Nat → V} (hρ : ∀ m, m < n → ρ' m = ρ m) : ∀ (x : CE), x.bd n → x.den ρ' = x.den ρ
  | .nil, _ => rfl
  | .cons c r, h => by simp only [CE.den, SC.den_congr hρ c h.1, CE.den_congr hρ r h.2]
theorem SC.den_congr {n : Nat} {ρ ρ' : Nat → V} (hρ : ∀ m, m < n → ρ' m = ρ m) : ∀ (x : SC), x.bd n → x.den ρ' = x.den ρ
  | .int _ e, h => by simp only [SC.den, IE.den_congr hρ e h]
  | .bool b, h => by simp only [SC.den, BE.den_congr hρ b h]
  | .str s, h => by simp only [SC.den, SE.den_congr hρ s h]
  | .slice _ _ l, h => by simp only [SC.den, LE.den_congr hρ l h]
end

theorem map_congr_bd {α : Type} {n : Nat} {ρ ρ' : Nat → V} {f : (Nat → V) → α → AV} {bd : Nat → α → Prop} (h : ∀ x, bd n x → f ρ' x = f ρ x) :
    ∀ (l : List α), (∀ x ∈ l, bd n x) → l.map (f ρ') = l.map (f ρ)
  | [], _ => rfl
  | x :: xs, hx => by
    simp only [List.map_cons]
    rw [h x (hx x (by simp)), map_congr_bd h xs fun y hy => hx y (by simp [hy])]

theorem TC.den_congr {n : Nat} {ρ ρ' : Nat → V} (hρ : ∀ m, m < n → ρ' m = ρ m) : ∀ (x : TC), x.bd n → x.den ρ' = x.den ρ
  | .c x, h => SC.den_congr hρ x h
  | .agg cs, h => by simp only [TC.den, map_congr_bd (f := SC.den) (bd := SC.bd) (SC.den_congr hρ) cs h]
  | .own _ l, h => by simp only [TC.den, LE.den_congr hρ l h]

theorem BC.den_congr {n : Nat} {ρ ρ' : Nat → V} (hρ : ∀ m, m < n → ρ' m = ρ m) : ∀ (x : BC), x.bd n → x.den ρ' = x.den ρ
  | .c x, h => SC.den_congr hρ x h
  | .own _ l, h => by simp only [BC.den, LE.den_congr hρ l h]
  | .row _ m cp l, h => by simp only [BC.den, IE.den_congr hρ m h.1, IE.den_congr hρ cp h.2.1, LE.den_congr hρ l h.2.2]

theorem SV.den_congr {n : Nat} {ρ ρ' : Nat → V} (hρ : ∀ m, m < n → ρ' m = ρ m) : ∀ (x : SV), x.bd n → x.den ρ' = x.den ρ
  | .dead, _ => rfl
  | .gone, _ => rfl
  | .c x, h => SC.den_congr hρ x h
  | .agg cs, h => by simp only [SV.den, map_congr_bd (f := SC.den) (bd := SC.bd) (SC.den_congr hρ) cs h]
  | .tuple vs, h => by simp only [SV.den, map_congr_bd (f := TC.den) (bd := TC.bd) (TC.den_congr hρ) vs h]
  | .own _ l, h => by simp only [SV.den, LE.den_congr hρ l h]
  | .box cs, h => by simp only [SV.den, map_congr_bd (f := BC.den) (bd := BC.bd) (BC.den_congr hρ) cs h]
  | .ptr _ _, _ => rfl
  | .eptr cs, h => by simp only [SV.den, map_congr_bd (f := SC.den) (bd := SC.bd) (SC.den_congr hρ) cs h]
  | .mref _, _ => rfl
  | .rptr _ i _ _, h => by simp only [SV.den, IE.den_congr hρ i h]

theorem VE.den_congr {n : Nat} {ρ ρ' : Nat → V} (hρ : ∀ m, m < n → ρ' m = ρ m) : ∀ (x : VE), x.bd n → x.den ρ' = x.den ρ
  | .i e, h => by simp only [VE.den, IE.den_congr hρ e h]
  | .b e, h => by simp only [VE.den, BE.den_congr hρ e h]
  | .s e, h => by simp only [VE.den, SE.den_congr hρ e h]
  | .l e, h => by simp only [VE.den, LE.den_congr hρ e h]

theorem bind_lt (ρ : Nat → V) (n : Nat) (vs : List V) : ∀ m, m < n → bind ρ n vs m = ρ m := fun m h => by simp [bind, h]

mutual
theorem IE.bd_mono {n n' : Nat} (hn : n ≤ n') : ∀ (x : IE), x.bd n → x.bd n'
  | .var _, h => Nat.lt_of_lt_of_le h hn
  | .lit _, _ => trivial
  | .bin _ _ a b, h => ⟨IE.bd_mono hn a h.1, IE.bd_mono hn b h.2⟩
  | .conv _ a, h => IE.bd_mono hn a h
  | .len l, h => LE.bd_mono hn l h
  | .slen s, h => SE.bd_mono hn s h
  | .getc s i, h => ⟨SE.bd_mono hn s h.1, IE.bd_mono hn i h.2⟩
theorem BE.bd_mono {n n' : Nat} (hn : n ≤ n') : ∀ (x : BE), x.bd n → x.bd n'
  | .var _, h => Nat.lt_of_lt_of_le h hn
  | .lit _, _ => trivial
  | .cmp _ a b, h => ⟨IE.bd_mono hn a h.1, IE.bd_mono hn b h.2⟩
  | .beq a b, h => ⟨BE.bd_mono hn a h.1, BE.bd_mono hn b h.2⟩
  | .seq a b, h => ⟨SE.bd_mono hn a h.1, SE.bd_mono hn b h.2⟩
  | .and a b, h => ⟨BE.bd_mono hn a h.1, BE.bd_mono hn b h.2⟩
  | .not a, h => BE.bd_mono hn a h
theorem SE.bd_mono {n n' : Nat} (hn : n ≤ n') : ∀ (x : SE), x.bd n → x.bd n'
  | .var _, h => Nat.lt_of_lt_of_le h hn
  | .lit _, _ => trivial
  | .bytes l, h => LE.bd_mono hn l h
theorem LE.bd_mono {n n' : Nat} (hn : n ≤ n') : ∀ (x : LE), x.bd n → x.bd n'
  | .var _, h => Nat.lt_of_lt_of_le h hn
  | .nil, _ => trivial
  | .snoc l e, h => ⟨LE.bd_mono hn l h.1, CE.bd_mono hn e h.2⟩
  | .app a b, h => ⟨LE.bd_mono hn a h.1, LE.bd_mono hn b h.2⟩
  | .take l i, h => ⟨LE.bd_mono hn l h.1, IE.bd_mono hn i h.2⟩
  | .drop l i, h => ⟨LE.bd_mono hn l h.1, IE.bd_mono hn i h.2⟩
  | .rep i e, h => ⟨IE.bd_mono hn i h.1, CE.bd_mono hn e h.2⟩
  | .setAt l i _ e, h => ⟨LE.bd_mono hn l h.1, IE.bd_mono hn i h.2.1, CE.bd_mono hn e h.2.2⟩
  | .spl l a, h => ⟨LE.bd_mono hn l h.1, LE.bd_mono hn a h.2⟩
theorem CE.bd_mono {n n' : Nat} (hn : n ≤ n') : ∀ (x : CE), x.bd n → x.bd n'
  | .nil, _ => trivial
  | .cons c r, h => ⟨SC.bd_mono hn c h.1, CE.bd_mono hn r h.2⟩
theorem SC.bd_mono {n n' : Nat} (hn : n ≤ n') : ∀ (x : SC), x.bd n → x.bd n'
  | .int _ e, h => IE.bd_mono hn e h
  | .bool b, h => BE.bd_mono hn b h
  | .str s, h => SE.bd_mono hn s h
  | .slice _ _ l, h => LE.bd_mono hn l h
end

theorem TC.bd_mono {n n' : Nat} (hn : n ≤ n') : ∀ (x : TC), x.bd n → x.bd n'
  | .c x, h => SC.bd_mono hn x h
  | .agg _, h => fun c hc => SC.bd_mono hn c (h c hc)
  | .own _ l, h => LE.bd_mono hn l h

theorem BC.bd_mono {n n' : Nat} (hn : n ≤ n') : ∀ (x : BC), x.bd n → x.bd n'
  | .c x, h => SC.bd_mono hn x h
  | .own _ l, h => LE.bd_mono hn l h
  | .row _ m cp l, h => ⟨IE.bd_mono hn m h.1, IE.bd_mono hn cp h.2.1, LE.bd_mono hn l h.2.2⟩

theorem SV.bd_mono {n n' : Nat} (hn : n ≤ n') : ∀ (x : SV), x.bd n → x.bd n'
  | .dead, _ => trivial
  | .gone, _ => trivial
  | .c x, h => SC.bd_mono hn x h
  | .agg _, h => fun c hc => SC.bd_mono hn c (h c hc)
  | .tuple _, h => fun c hc => TC.bd_mono hn c (h c hc)
  | .own _ l, h => LE.bd_mono hn l h
  | .box _, h => fun c hc => BC.bd_mono hn c (h c hc)
  | .ptr _ _, _ => trivial
  | .eptr _, h => fun c hc => SC.bd_mono hn c (h c hc)
  | .mref _, _ => trivial
  | .rptr _ i _ _, h => IE.bd_mono hn i h

end Go.AM
