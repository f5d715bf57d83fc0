/- CapRetypeExact returns true for every input, and its arguments read afterwards as before: Retype answers as the reference does. No condition beyond those of the given statement. -/
import Derived.Test.YtjfhdhplmibnfaaL11c
namespace Go.Proofs.Ytjfhdhplmibnfaa
open Go Go.AM
set_option maxRecDepth 100000

theorem lifted3 (os : Os) (started : os.Started) (H : Type) (enc : TypeId × Value → H) :
    ReturnsInHanded {} Try.checked os 3 .any (Rows.capRetypeExactSpec.pre6 enc Try.prog Try.f3 Rows.capRetypeExactRow.domain false) (Rows.capRetypeExactSpec.post enc Try.prog Try.f3 Rows.capRetypeExactRow.apart Rows.capRetypeExactRow.fresh Rows.capRetypeExactRow.handsOn Rows.capRetypeExactRow.again) := by
  refine returnsInHanded_of_change (C := Try.checked) ownKnobOk started (by kernel_rfl) Try.func3
    (ChangeSpec.witness6 (enc := enc) (C := Try.checked) false ⟨#[], #[.agg #[.int .i64 0, .int .i64 0, .int .i64 0, .int .i64 0, .int .i64 0, .int .i64 0, .bool false], .int .i64 0, .int .i64 0, .int .i64 0, .int .i64 0, .int .i64 0, .int .i64 0], []⟩ 8 (by kernel_rfl) (by kernel_rfl) (by kernel_rfl) (by kernel_rfl)) ?_
  intro W base args ds gs before hval hW _ _
  refine contract_true (d := 8) laid (fun t ht => parOk t ?_) (by kernel_rfl : Try.f3.resultTypes = #[4]) Try.underlying4 rfl (fun ds hd => ?_) (fun xs hx hty => ?_) W base args ds gs before hval hW
  · have : (Try.f3.params.toList.all fun t => parTs.contains t) = true := by kernel_rfl
    rw [List.all_eq_true] at this
    exact this t ht
  · rw [Try.params3] at hd
    match ds, hd with
    | [d0, d1, d2, d3, d4, d5, d6], _ => rfl
  · rw [Try.params3] at hx hty
    match xs, hx with
    | [x0, x1, x2, x3, x4, x5, x6], _ =>
      obtain ⟨k0, b0, s0, r0, w0, l0, d0, rfl⟩ := arg_cap (hty 0 _ _ rfl rfl)
      obtain ⟨z1, rfl⟩ := arg_int (hty 1 _ _ rfl rfl)
      obtain ⟨z2, rfl⟩ := arg_int (hty 2 _ _ rfl rfl)
      obtain ⟨z3, rfl⟩ := arg_int (hty 3 _ _ rfl rfl)
      obtain ⟨z4, rfl⟩ := arg_int (hty 4 _ _ rfl rfl)
      obtain ⟨z5, rfl⟩ := arg_int (hty 5 _ _ rfl rfl)
      obtain ⟨z6, rfl⟩ := arg_int (hty 6 _ _ rfl rfl)
      exact ⟨_, ok3 [.i k0, .i b0, .i s0, .i r0, .i w0, .i l0, .b d0, .i z1, .i z2, .i z3, .i z4, .i z5, .i z6] true (s3 k0 b0 s0 r0 w0 l0 d0 z1 z2 z3 z4 z5 z6)⟩

theorem joined3 : joinedFacts Try.prog 3 Try.f3 Rows.capRetypeExactSpec Rows.capRetypeExactRow = true := by
  unfold joinedFacts
  rw [enters, lifts, makeIs]
  change _ = _
  kernel_rfl

theorem holds3 : Rows.CapRetypeExactSaid :=
  OpenClaim.holds_of_wide 3 Try.f3 rfl rfl rfl rfl rfl rfl rfl ⟨rfl, rfl, rfl, rfl, rfl⟩ rfl rfl rfl rfl rfl (by kernel_rfl) Try.func3 joined3
    (of_decide_eq_true (by kernel_rfl)) (by unfold Func.isWrapper; first | (rw [if_pos (by decide +kernel)]; kernel_rfl) | (rw [if_neg (by decide +kernel)]; exact ⟨rfl, rfl⟩))
    (fun os started H enc _ => lifted3 os started H enc)

#print axioms holds3
end Go.Proofs.Ytjfhdhplmibnfaa
