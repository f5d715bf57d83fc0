/- What all claims of this seat share: closed facts of the program's form. -/
import Derived.Test.YtjfhdhplmibnfaaRows
import Derived.Test.YtjfhdhplmibnfaaChecked
import Derived.Test.YtjfhdhplmibnfaaM3
import Derived.JoinedOf
import Derived.JoinedAt
import Derived.RowKit3
import Derived.KernelRfl
namespace Go.Proofs.Ytjfhdhplmibnfaa
open Go Go.AM
set_option maxRecDepth 100000

theorem behind : ∃ ws, behindMainWord (wordsSigns Try.prog.initOrder.toList) = "cut".toList :: ws := by
  have h : Try.prog.initOrder.toList = _ := String.toList_ofList (l := _)
  rw [h]
  exact behind_words (by kernel_rfl) (by kernel_rfl) (by kernel_rfl) (by kernel_rfl) (by kernel_rfl) (by kernel_rfl)

theorem enters : Try.prog.mayEnter = true := behind.elim fun _ h => enters_of h (by kernel_rfl) (by kernel_rfl) (by kernel_rfl)
theorem lifts : Try.prog.liftsFinal = false := behind.elim fun _ h => final_of h
theorem makeIs : Try.prog.make = some .cut := behind.elim fun _ h => make_of h
theorem laid : laidOutB Try.prog = true := by kernel_rfl
theorem ownKnobOk : ownKnob Try.prog.godebug = none := by kernel_rfl

theorem ty_int {d : Nat} {cs : List AV} (h : TyR Try.prog (d + 1) 3 cs) : ∃ z, cs = [I z] := by
  simp only [TyR, Try.underlying3] at h
  obtain ⟨z, h, _⟩ := h
  exact ⟨z, h⟩

theorem ty_bool {d : Nat} {cs : List AV} (h : TyR Try.prog (d + 1) 4 cs) : ∃ z, cs = [B z] := by
  simp only [TyR, Try.underlying4] at h
  exact h

theorem ty_cap {d : Nat} {cs : List AV} (h : TyR Try.prog (d + 2) 23 cs) : ∃ k b s r w l dv, cs = [I k, I b, I s, I r, I w, I l, B dv] := by
  rw [TyR] at h
  simp only [Try.underlying23] at h
  obtain ⟨ps, rfl, hl, hp⟩ := h
  obtain ⟨p0, p1, p2, p3, p4, p5, p6, rfl⟩ : ∃ p0 p1 p2 p3 p4 p5 p6, ps = [p0, p1, p2, p3, p4, p5, p6] := by
    match ps, hl with
    | [p0, p1, p2, p3, p4, p5, p6], _ => exact ⟨p0, p1, p2, p3, p4, p5, p6, rfl⟩
  obtain ⟨k, rfl⟩ := ty_int (hp 0 _ _ rfl rfl)
  obtain ⟨b, rfl⟩ := ty_int (hp 1 _ _ rfl rfl)
  obtain ⟨s, rfl⟩ := ty_int (hp 2 _ _ rfl rfl)
  obtain ⟨r, rfl⟩ := ty_int (hp 3 _ _ rfl rfl)
  obtain ⟨w, rfl⟩ := ty_int (hp 4 _ _ rfl rfl)
  obtain ⟨l, rfl⟩ := ty_int (hp 5 _ _ rfl rfl)
  obtain ⟨dv, rfl⟩ := ty_bool (hp 6 _ _ rfl rfl)
  exact ⟨k, b, s, r, w, l, dv, rfl⟩

theorem arg_int {x : AV} (h : ArgTy Try.prog 8 3 x) : ∃ z, x = I z := by
  simp only [ArgTy, Try.underlying3] at h
  obtain ⟨z, hz⟩ := ty_int h.2
  exact ⟨z, by simpa using hz⟩

theorem arg_cap {x : AV} (h : ArgTy Try.prog 8 23 x) : ∃ k b s r w l d, x = .agg [I k, I b, I s, I r, I w, I l, B d] := by
  simp only [ArgTy, Try.underlying23] at h
  obtain ⟨cs, rfl, h⟩ := h
  obtain ⟨k, b, s, r, w, l, d, rfl⟩ := ty_cap h
  exact ⟨k, b, s, r, w, l, d, rfl⟩

/-! lists as arguments -/
def u8c (z : Int) : List AV := [AV.val (.int .u8 z)]
def byteCells (l : List Int) : List (List AV) := l.map u8c
def Bytes (l : List Int) : Prop := ∀ z ∈ l, 0 ≤ z ∧ z ≤ 255
def i64c (z : Int) : List AV := [I z]
def intCells (l : List Int) : List (List AV) := l.map i64c

structure Id where
  core : Int
  op : Int
  part : Int
  deriving DecidableEq

def idc (i : Id) : List AV := [I i.core, I i.op, I i.part]
def idCells (l : List Id) : List (List AV) := l.map idc

theorem list_lift {α β : Type} {f : α → β} {p : α → Prop} : ∀ (xs : List β), (∀ x ∈ xs, ∃ a, x = f a ∧ p a) → ∃ l : List α, xs = l.map f ∧ ∀ a ∈ l, p a
  | [], _ => ⟨[], rfl, by simp⟩
  | x :: xs, h => by
    obtain ⟨a, h1, h2⟩ := h x (by simp)
    obtain ⟨l, h3, h4⟩ := list_lift xs fun y hy => h y (by simp [hy])
    refine ⟨a :: l, by rw [h1, h3]; rfl, fun b hb => ?_⟩
    rcases List.mem_cons.1 hb with rfl | hb
    · exact h2
    · exact h4 b hb

theorem cells5 : Try.prog.cellsOf 5 = 1 := by kernel_rfl
theorem cells3 : Try.prog.cellsOf 3 = 1 := by kernel_rfl
theorem cells55 : Try.prog.cellsOf 55 = 3 := by kernel_rfl

theorem lit8 {z : Int} (h : (Lit.int .u8 z).wf = true) : 0 ≤ z ∧ z ≤ 255 := by
  have h1 : IntKind.u8.min = 0 := by decide
  have h2 : IntKind.u8.max = 255 := by decide
  simp [Lit.wf, h1, h2] at h
  omega

theorem arg_bytes {x : AV} (h : ArgTy Try.prog 8 47 x) : ∃ l, x = .slice false 1 (byteCells l) ∧ l.length ≤ maxLen ∧ Bytes l := by
  simp only [ArgTy, Try.underlying47] at h
  have hh := h.2
  rw [TyR] at hh
  simp only [Try.underlying47, cells5] at hh
  obtain ⟨xs, h1, h2, h3⟩ := hh
  obtain ⟨l, rfl, h5⟩ := list_lift (f := u8c) (p := fun z => 0 ≤ z ∧ z ≤ 255) xs fun y hy => by
    have := h3 y hy
    rw [TyR] at this
    simp only [Try.underlying5] at this
    obtain ⟨z, rfl, hz⟩ := this
    exact ⟨z, rfl, lit8 hz⟩
  exact ⟨l, by simpa [byteCells] using h1, by simpa using h2, h5⟩

theorem arg_ints {x : AV} (h : ArgTy Try.prog 8 33 x) : ∃ l, x = .slice false 1 (intCells l) ∧ l.length ≤ maxLen := by
  simp only [ArgTy, Try.underlying33] at h
  have hh := h.2
  rw [TyR] at hh
  simp only [Try.underlying33, cells3] at hh
  obtain ⟨xs, h1, h2, h3⟩ := hh
  obtain ⟨l, rfl, h5⟩ := list_lift (f := i64c) (p := fun _ => True) xs fun y hy => by
    have := h3 y hy
    rw [TyR] at this
    simp only [Try.underlying3] at this
    obtain ⟨z, rfl, hz⟩ := this
    exact ⟨z, rfl, trivial⟩
  exact ⟨l, by simpa [intCells] using h1, by simpa using h2⟩

theorem ty_id {d : Nat} {cs : List AV} (h : TyR Try.prog (d + 2) 55 cs) : ∃ i : Id, cs = idc i := by
  rw [TyR] at h
  simp only [Try.underlying55] at h
  obtain ⟨ps, rfl, hl, hp⟩ := h
  obtain ⟨p0, p1, p2, rfl⟩ : ∃ p0 p1 p2, ps = [p0, p1, p2] := by
    match ps, hl with
    | [p0, p1, p2], _ => exact ⟨p0, p1, p2, rfl⟩
  obtain ⟨k, rfl⟩ := ty_int (hp 0 _ _ rfl rfl)
  obtain ⟨b, rfl⟩ := ty_int (hp 1 _ _ rfl rfl)
  obtain ⟨s, rfl⟩ := ty_int (hp 2 _ _ rfl rfl)
  exact ⟨⟨k, b, s⟩, rfl⟩

theorem ty_ids {d : Nat} {cs : List AV} (h : TyR Try.prog (d + 3) 56 cs) : ∃ l, cs = [.slice false 3 (idCells l)] ∧ l.length ≤ maxLen := by
  rw [TyR] at h
  simp only [Try.underlying56, cells55] at h
  obtain ⟨xs, h1, h2, h3⟩ := h
  obtain ⟨l, rfl, h5⟩ := list_lift (f := idc) (p := fun _ => True) xs fun y hy => by
    obtain ⟨i, hi⟩ := ty_id (h3 y hy)
    exact ⟨i, hi, trivial⟩
  exact ⟨l, h1, by simpa using h2⟩

theorem arg_id {x : AV} (h : ArgTy Try.prog 8 55 x) : ∃ a b c, x = .agg [I a, I b, I c] := by
  simp only [ArgTy, Try.underlying55] at h
  obtain ⟨cs, rfl, h⟩ := h
  obtain ⟨i, rfl⟩ := ty_id h
  exact ⟨i.core, i.op, i.part, rfl⟩

theorem arg_ids {x : AV} (h : ArgTy Try.prog 8 56 x) : ∃ l, x = .slice false 3 (idCells l) ∧ l.length ≤ maxLen := by
  simp only [ArgTy, Try.underlying56] at h
  obtain ⟨l, h1, h2⟩ := ty_ids h.2
  exact ⟨l, by simpa using h1, h2⟩

theorem arg_node {x : AV} (h : ArgTy Try.prog 8 58 x) : ∃ a b c p k bs s r w l d, x = .agg [I a, I b, I c, .slice false 3 (idCells p), I k, I bs, I s, I r, I w, I l, B d] ∧ p.length ≤ maxLen := by
  simp only [ArgTy, Try.underlying58] at h
  obtain ⟨cs, rfl, h⟩ := h
  rw [TyR] at h
  simp only [Try.underlying58] at h
  obtain ⟨ps, rfl, hl, hp⟩ := h
  obtain ⟨p0, p1, p2, rfl⟩ : ∃ p0 p1 p2, ps = [p0, p1, p2] := by
    match ps, hl with
    | [p0, p1, p2], _ => exact ⟨p0, p1, p2, rfl⟩
  obtain ⟨i, rfl⟩ := ty_id (hp 0 _ _ rfl rfl)
  obtain ⟨l, rfl, hl2⟩ := ty_ids (hp 1 _ _ rfl rfl)
  obtain ⟨k, b, s, r, w, lv, dv, rfl⟩ := ty_cap (hp 2 _ _ rfl rfl)
  exact ⟨i.core, i.op, i.part, l, k, b, s, r, w, lv, dv, rfl, hl2⟩

def parTs : List TypeId := [3, 23, 33, 47, 55, 56, 58]

theorem parOk (t : TypeId) (h : parTs.contains t = true) : fineB Try.prog 8 t = true ∧ t < Try.prog.types.size ∧ Try.prog.readableRec t = true := by
  have h2 : parTs.all (fun t => fineB Try.prog 8 t && decide (t < Try.prog.types.size) && Try.prog.readableRec t) = true := by kernel_rfl
  rw [List.all_eq_true] at h2
  have := h2 t (by simpa using h)
  simpa [and_assoc] using this

end Go.Proofs.Ytjfhdhplmibnfaa
