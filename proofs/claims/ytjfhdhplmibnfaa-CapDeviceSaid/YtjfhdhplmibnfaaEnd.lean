/- What all claims of this seat share: closed facts of the program's form. -/
import Derived.Test.YtjfhdhplmibnfaaRows
import Derived.Test.YtjfhdhplmibnfaaChecked
import Derived.Test.YtjfhdhplmibnfaaAmRow
import Derived.Test.YtjfhdhplmibnfaaAmLift
import Derived.JoinedOf
import Derived.JoinedAt
import Derived.RowKit3
import Derived.KernelRfl
namespace Go.Proofs.Ytjfhdhplmibnfaa
open Go Go.AM
set_option maxRecDepth 100000

theorem behind : ∃ ws, behindMainWord (wordsSigns Try.prog.initOrder.toList) = "cut".toList :: ws := by
  have h : Try.prog.initOrder.toList = _ := String.toList_ofList (l := _)
  rw [h]
  exact behind_words (by kernel_rfl) (by kernel_rfl) (by kernel_rfl) (by kernel_rfl) (by kernel_rfl) (by kernel_rfl)

theorem enters : Try.prog.mayEnter = true := behind.elim fun _ h => enters_of h (by kernel_rfl) (by kernel_rfl) (by kernel_rfl)
theorem lifts : Try.prog.liftsFinal = false := behind.elim fun _ h => final_of h
theorem makeIs : Try.prog.make = some .cut := behind.elim fun _ h => make_of h
theorem laid : laidOutB Try.prog = true := by kernel_rfl
theorem ownKnobOk : ownKnob Try.prog.godebug = none := by kernel_rfl

theorem ty_int {d : Nat} {cs : List AV} (h : TyR Try.prog (d + 1) 3 cs) : ∃ z, cs = [I z] := by
  simp only [TyR, Try.underlying3] at h
  obtain ⟨z, h, _⟩ := h
  exact ⟨z, h⟩

theorem ty_bool {d : Nat} {cs : List AV} (h : TyR Try.prog (d + 1) 4 cs) : ∃ z, cs = [B z] := by
  simp only [TyR, Try.underlying4] at h
  exact h

theorem ty_cap {d : Nat} {cs : List AV} (h : TyR Try.prog (d + 2) 23 cs) : ∃ k b s r w l dv, cs = [I k, I b, I s, I r, I w, I l, B dv] := by
  rw [TyR] at h
  simp only [Try.underlying23] at h
  obtain ⟨ps, rfl, hl, hp⟩ := h
  obtain ⟨p0, p1, p2, p3, p4, p5, p6, rfl⟩ : ∃ p0 p1 p2 p3 p4 p5 p6, ps = [p0, p1, p2, p3, p4, p5, p6] := by
    match ps, hl with
    | [p0, p1, p2, p3, p4, p5, p6], _ => exact ⟨p0, p1, p2, p3, p4, p5, p6, rfl⟩
  obtain ⟨k, rfl⟩ := ty_int (hp 0 _ _ rfl rfl)
  obtain ⟨b, rfl⟩ := ty_int (hp 1 _ _ rfl rfl)
  obtain ⟨s, rfl⟩ := ty_int (hp 2 _ _ rfl rfl)
  obtain ⟨r, rfl⟩ := ty_int (hp 3 _ _ rfl rfl)
  obtain ⟨w, rfl⟩ := ty_int (hp 4 _ _ rfl rfl)
  obtain ⟨l, rfl⟩ := ty_int (hp 5 _ _ rfl rfl)
  obtain ⟨dv, rfl⟩ := ty_bool (hp 6 _ _ rfl rfl)
  exact ⟨k, b, s, r, w, l, dv, rfl⟩

theorem arg_int {x : AV} (h : ArgTy Try.prog 8 3 x) : ∃ z, x = I z := by
  simp only [ArgTy, Try.underlying3] at h
  obtain ⟨z, hz⟩ := ty_int h.2
  exact ⟨z, by simpa using hz⟩

theorem arg_cap {x : AV} (h : ArgTy Try.prog 8 23 x) : ∃ k b s r w l d, x = .agg [I k, I b, I s, I r, I w, I l, B d] := by
  simp only [ArgTy, Try.underlying23] at h
  obtain ⟨cs, rfl, h⟩ := h
  obtain ⟨k, b, s, r, w, l, d, rfl⟩ := ty_cap h
  exact ⟨k, b, s, r, w, l, d, rfl⟩

def parTs : List TypeId := [3, 23, 33, 47, 55, 56, 58]

theorem parOk (t : TypeId) (h : parTs.contains t = true) : fineB Try.prog 8 t = true ∧ t < Try.prog.types.size ∧ Try.prog.readableRec t = true := by
  have h2 : parTs.all (fun t => fineB Try.prog 8 t && decide (t < Try.prog.types.size) && Try.prog.readableRec t) = true := by kernel_rfl
  rw [List.all_eq_true] at h2
  have := h2 t (by simpa using h)
  simpa [and_assoc] using this

end Go.Proofs.Ytjfhdhplmibnfaa
