/- CapAttenuate returns true for every input, and its arguments read afterwards as before: attenuating twice is attenuating by both masks, adds no right and keeps the object. No condition beyond those of the given statement. -/
import Derived.Test.YtjfhdhplmibnfaaL11e
namespace Go.Proofs.Ytjfhdhplmibnfaa
open Go Go.AM
set_option maxRecDepth 100000

theorem lifted6 (os : Os) (started : os.Started) (H : Type) (enc : TypeId × Value → H) :
    ReturnsInHanded {} Try.checked os 6 .any (Rows.capAttenuateSpec.pre6 enc Try.prog Try.f6 Rows.capAttenuateRow.domain false) (Rows.capAttenuateSpec.post enc Try.prog Try.f6 Rows.capAttenuateRow.apart Rows.capAttenuateRow.fresh Rows.capAttenuateRow.handsOn Rows.capAttenuateRow.again) := by
  refine returnsInHanded_of_change (C := Try.checked) ownKnobOk started (by kernel_rfl) Try.func6
    (ChangeSpec.witness6 (enc := enc) (C := Try.checked) false ⟨#[], #[.int .i64 0, .int .i64 0, .int .i64 0, .int .i64 0, .int .i64 0, .int .i64 0, .int .i64 0], []⟩ 8 (by kernel_rfl) (by kernel_rfl) (by kernel_rfl) (by kernel_rfl)) ?_
  intro W base args ds gs before hval hW _ _
  refine contract_true (d := 8) laid (fun t ht => parOk t ?_) (by kernel_rfl : Try.f6.resultTypes = #[4]) Try.underlying4 rfl (fun ds hd => ?_) (fun xs hx hty => ?_) W base args ds gs before hval hW
  · have : (Try.f6.params.toList.all fun t => parTs.contains t) = true := by kernel_rfl
    rw [List.all_eq_true] at this
    exact this t ht
  · rw [Try.params6] at hd
    match ds, hd with
    | [d0, d1, d2, d3, d4, d5, d6], _ => rfl
  · rw [Try.params6] at hx hty
    match xs, hx with
    | [x0, x1, x2, x3, x4, x5, x6], _ =>
      obtain ⟨z0, rfl⟩ := arg_int (hty 0 _ _ rfl rfl)
      obtain ⟨z1, rfl⟩ := arg_int (hty 1 _ _ rfl rfl)
      obtain ⟨z2, rfl⟩ := arg_int (hty 2 _ _ rfl rfl)
      obtain ⟨z3, rfl⟩ := arg_int (hty 3 _ _ rfl rfl)
      obtain ⟨z4, rfl⟩ := arg_int (hty 4 _ _ rfl rfl)
      obtain ⟨z5, rfl⟩ := arg_int (hty 5 _ _ rfl rfl)
      obtain ⟨z6, rfl⟩ := arg_int (hty 6 _ _ rfl rfl)
      exact ⟨_, ok6 [.i z0, .i z1, .i z2, .i z3, .i z4, .i z5, .i z6] true (s6 z0 z1 z2 z3 z4 z5 z6)⟩

theorem joined6 : joinedFacts Try.prog 6 Try.f6 Rows.capAttenuateSpec Rows.capAttenuateRow = true := by
  unfold joinedFacts
  rw [enters, lifts, makeIs]
  change _ = _
  kernel_rfl

theorem holds6 : Rows.CapAttenuateSaid :=
  OpenClaim.holds_of_wide 6 Try.f6 rfl rfl rfl rfl rfl rfl rfl ⟨rfl, rfl, rfl, rfl, rfl⟩ rfl rfl rfl rfl rfl (by kernel_rfl) Try.func6 joined6
    (of_decide_eq_true (by kernel_rfl)) (by unfold Func.isWrapper; first | (rw [if_pos (by decide +kernel)]; kernel_rfl) | (rw [if_neg (by decide +kernel)]; exact ⟨rfl, rfl⟩))
    (fun os started H enc _ => lifted6 os started H enc)

#print axioms holds6
end Go.Proofs.Ytjfhdhplmibnfaa
