/- A chain of children ends with ErrDepth exactly when the path is full. No condition beyond those of the given statement. -/
import Derived.Test.YtjfhdhplmibnfaaL12e
namespace Go.Proofs.Ytjfhdhplmibnfaa
open Go Go.AM
set_option maxRecDepth 100000

theorem lifted14 (os : Os) (started : os.Started) (H : Type) (enc : TypeId × Value → H) :
    ReturnsInHanded {} Try.checked os 14 .any (Rows.nodeDepthSpec.pre6 enc Try.prog Try.f14 Rows.nodeDepthRow.domain false) (Rows.nodeDepthSpec.post enc Try.prog Try.f14 Rows.nodeDepthRow.apart Rows.nodeDepthRow.fresh Rows.nodeDepthRow.handsOn Rows.nodeDepthRow.again) := by
  refine returnsInHanded_of_change (C := Try.checked) ownKnobOk started (by kernel_rfl) Try.func14
    (ChangeSpec.witness6 (enc := enc) (C := Try.checked) false ⟨#[], #[.int .i64 0, .int .i64 0], []⟩ 8 (by kernel_rfl) (by kernel_rfl) (by kernel_rfl) (by kernel_rfl)) ?_
  intro W base args ds gs before hval hW _ _
  refine contract_true (d := 8) laid (fun t ht => parOk t ?_) (by kernel_rfl : Try.f14.resultTypes = #[4]) Try.underlying4 rfl (fun ds hd => ?_) (fun xs hx hty => ?_) W base args ds gs before hval hW
  · have : (Try.f14.params.toList.all fun t => parTs.contains t) = true := by kernel_rfl
    rw [List.all_eq_true] at this
    exact this t ht
  · rw [Try.params14] at hd
    match ds, hd with
    | [d0, d1], _ => rfl
  · rw [Try.params14] at hx hty
    match xs, hx with
    | [x0, x1], _ =>
      obtain ⟨z0, rfl⟩ := arg_int (hty 0 _ _ rfl rfl)
      obtain ⟨z1, rfl⟩ := arg_int (hty 1 _ _ rfl rfl)
      exact ⟨_, ok14 [.i z0, .i z1] true (s14 z0 z1)⟩

theorem joined14 : joinedFacts Try.prog 14 Try.f14 Rows.nodeDepthSpec Rows.nodeDepthRow = true := by
  unfold joinedFacts
  rw [enters, lifts, makeIs]
  change _ = _
  kernel_rfl

theorem holds14 : Rows.NodeDepthSaid :=
  OpenClaim.holds_of_wide 14 Try.f14 rfl rfl rfl rfl rfl rfl rfl ⟨rfl, rfl, rfl, rfl, rfl⟩ rfl rfl rfl rfl rfl (by kernel_rfl) Try.func14 joined14
    (of_decide_eq_true (by kernel_rfl)) (by unfold Func.isWrapper; first | (rw [if_pos (by decide +kernel)]; kernel_rfl) | (rw [if_neg (by decide +kernel)]; exact ⟨rfl, rfl⟩))
    (fun os started H enc _ => lifted14 os started H enc)

#print axioms holds14
end Go.Proofs.Ytjfhdhplmibnfaa
