/- CapExact returns true for every input, and its arguments read afterwards as before: validity, range, sameness, coexistence and attenuation of capabilities answer as the reference does. No condition beyond those of the given statement. -/
import Derived.Test.YtjfhdhplmibnfaaEnd
import Derived.Test.YtjfhdhplmibnfaaW11d
import Derived.Test.YtjfhdhplmibnfaaRows
import Derived.JoinedOf
import Derived.JoinedAt
import Derived.RowKit3
namespace Go.Proofs.Ytjfhdhplmibnfaa
open Go Go.AM
set_option linter.unusedSimpArgs false
set_option linter.unusedVariables false

set_option maxRecDepth 100000 in
theorem ty_int {d : Nat} {cs : List AV} (h : TyR Try.prog (d + 1) 3 cs) : ∃ z, cs = [I z] := by
  simp only [TyR, Try.underlying3] at h
  obtain ⟨z, h, _⟩ := h
  exact ⟨z, h⟩

set_option maxRecDepth 100000 in
theorem ty_bool {d : Nat} {cs : List AV} (h : TyR Try.prog (d + 1) 4 cs) : ∃ z, cs = [B z] := by
  simp only [TyR, Try.underlying4] at h
  exact h

set_option maxRecDepth 100000 in
theorem ty_cap {d : Nat} {cs : List AV} (h : TyR Try.prog (d + 2) 23 cs) : ∃ k b s r w l dv, cs = [I k, I b, I s, I r, I w, I l, B dv] := by
  rw [TyR] at h
  simp only [Try.underlying23] at h
  obtain ⟨ps, rfl, hl, hp⟩ := h
  obtain ⟨p0, p1, p2, p3, p4, p5, p6, rfl⟩ : ∃ p0 p1 p2 p3 p4 p5 p6, ps = [p0, p1, p2, p3, p4, p5, p6] := by
    match ps, hl with
    | [p0, p1, p2, p3, p4, p5, p6], _ => exact ⟨p0, p1, p2, p3, p4, p5, p6, rfl⟩
  obtain ⟨k, rfl⟩ := ty_int (hp 0 _ _ rfl rfl)
  obtain ⟨b, rfl⟩ := ty_int (hp 1 _ _ rfl rfl)
  obtain ⟨s, rfl⟩ := ty_int (hp 2 _ _ rfl rfl)
  obtain ⟨r, rfl⟩ := ty_int (hp 3 _ _ rfl rfl)
  obtain ⟨w, rfl⟩ := ty_int (hp 4 _ _ rfl rfl)
  obtain ⟨l, rfl⟩ := ty_int (hp 5 _ _ rfl rfl)
  obtain ⟨dv, rfl⟩ := ty_bool (hp 6 _ _ rfl rfl)
  exact ⟨k, b, s, r, w, l, dv, rfl⟩

set_option maxRecDepth 100000 in
theorem arg_int {x : AV} (h : ArgTy Try.prog 8 3 x) : ∃ z, x = I z := by
  simp only [ArgTy, Try.underlying3] at h
  obtain ⟨z, hz⟩ := ty_int h.2
  exact ⟨z, by simpa using hz⟩

set_option maxRecDepth 100000 in
theorem arg_cap {x : AV} (h : ArgTy Try.prog 8 23 x) : ∃ k b s r w l d, x = capAV k b s r w l d := by
  simp only [ArgTy, Try.underlying23] at h
  obtain ⟨cs, rfl, h⟩ := h
  obtain ⟨k, b, s, r, w, l, d, rfl⟩ := ty_cap h
  exact ⟨k, b, s, r, w, l, d, rfl⟩

set_option maxRecDepth 100000 in
theorem parOk (t : TypeId) (h : ([3, 23] : List TypeId).contains t = true) : fineB Try.prog 8 t = true ∧ t < Try.prog.types.size ∧ Try.prog.readableRec t = true := by
  have h2 : ([3, 23] : List TypeId).all (fun t => fineB Try.prog 8 t && decide (t < Try.prog.types.size) && Try.prog.readableRec t) = true := by kernel_rfl
  rw [List.all_eq_true] at h2
  have := h2 t (by simpa using h)
  simpa [and_assoc] using this

set_option maxRecDepth 100000 in
theorem lifted8 (os : Os) (started : os.Started) (H : Type) (enc : TypeId × Value → H) :
    ReturnsInHanded {} Try.checked os 8 .any (Rows.capExactSpec.pre6 enc Try.prog Try.f8 Rows.capExactRow.domain false) (Rows.capExactSpec.post enc Try.prog Try.f8 Rows.capExactRow.apart Rows.capExactRow.fresh Rows.capExactRow.handsOn Rows.capExactRow.again) := by
  refine returnsInHanded_of_change (C := Try.checked) ownKnobOk started (by kernel_rfl) Try.func8
    (ChangeSpec.witness6 (enc := enc) (C := Try.checked) false ⟨#[], #[.agg #[.int .i64 0, .int .i64 0, .int .i64 0, .int .i64 0, .int .i64 0, .int .i64 0, .bool false], .agg #[.int .i64 0, .int .i64 0, .int .i64 0, .int .i64 0, .int .i64 0, .int .i64 0, .bool false], .int .i64 0], []⟩ 8 (by kernel_rfl) (by kernel_rfl) (by kernel_rfl) (by kernel_rfl)) ?_
  intro W base args ds gs before hval hW _ _
  refine contract_true (d := 8) laid (fun t ht => parOk t ?_) (by kernel_rfl : Try.f8.resultTypes = #[4]) Try.underlying4 rfl (fun ds hd => ?_) (fun xs hx hty => ?_) W base args ds gs before hval hW
  · rw [Try.params8] at ht
    simp at ht
    rcases ht with rfl | rfl <;> rfl
  · rw [Try.params8] at hd
    match ds, hd with
    | [d1, d2, d3], _ => rfl
  · rw [Try.params8] at hx hty
    match xs, hx with
    | [x0, x1, x2], _ =>
      obtain ⟨k, b, s, r, w, l, d, rfl⟩ := arg_cap (hty 0 _ _ rfl rfl)
      obtain ⟨k', b', s', r', w', l', d', rfl⟩ := arg_cap (hty 1 _ _ rfl rfl)
      obtain ⟨m, rfl⟩ := arg_int (hty 2 _ _ rfl rfl)
      exact ⟨_, ok8 ..⟩

set_option maxRecDepth 100000 in
theorem joined8 : joinedFacts Try.prog 8 Try.f8 Rows.capExactSpec Rows.capExactRow = true := by
  unfold joinedFacts
  rw [enters, lifts, makeIs]
  change _ = _
  kernel_rfl

set_option maxRecDepth 100000 in
theorem holds8 : Rows.CapExactSaid :=
  OpenClaim.holds_of_wide 8 Try.f8 rfl rfl rfl rfl rfl rfl rfl ⟨rfl, rfl, rfl, rfl, rfl⟩ rfl rfl rfl rfl rfl (by kernel_rfl) Try.func8 joined8
    (of_decide_eq_true (by kernel_rfl)) (by unfold Func.isWrapper; first | (rw [if_pos (by decide +kernel)]; kernel_rfl) | (rw [if_neg (by decide +kernel)]; exact ⟨rfl, rfl⟩))
    (fun os started H enc _ => lifted8 os started H enc)

#print axioms holds8
end Go.Proofs.Ytjfhdhplmibnfaa
