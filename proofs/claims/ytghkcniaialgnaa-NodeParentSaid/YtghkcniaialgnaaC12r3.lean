/- NodeParent: the parent of a made node is the nearest ancestor among the given Ids. No condition beyond those of the given statement. -/
import Derived.Test.YtghkcniaialgnaaM6
namespace Go.Proofs.Ytghkcniaialgnaa
open Go Go.AM
set_option maxRecDepth 100000

theorem lifted3 (os : Os) (started : os.Started) (H : Type) (enc : TypeId × Value → H) :
    ReturnsInHanded {} Try.checked os 3 .any (Rows.nodeParentSpec.pre6 enc Try.prog Try.f3 Rows.nodeParentRow.domain false) (Rows.nodeParentSpec.post enc Try.prog Try.f3 Rows.nodeParentRow.apart Rows.nodeParentRow.fresh Rows.nodeParentRow.handsOn Rows.nodeParentRow.again) := by
  refine returnsInHanded_of_change (C := Try.checked) ownKnobOk started (by kernel_rfl) Try.func3
    (ChangeSpec.witness6 (enc := enc) (C := Try.checked) false ⟨#[], #[.int .i64 0, .int .i64 0, .int .i64 0, .slice none 0 0, .slice none 0 0], []⟩ 12 (by kernel_rfl) (by kernel_rfl) (by kernel_rfl) (by kernel_rfl)) ?_
  intro W base args ds gs before hval hW _ _
  refine contract_true (d := 12) laid (fun t ht => parOk t ?_) (by kernel_rfl : Try.f3.resultTypes = #[4]) Try.underlying4 rfl (fun ds hd => ?_) (fun xs hx hty => ?_) W base args ds gs before hval hW
  · have : (Try.f3.params.toList.all fun t => parTs.contains t) = true := by kernel_rfl
    rw [List.all_eq_true] at this
    exact this t ht
  · rw [Try.params3] at hd
    match ds, hd with
    | [d0, d1, d2, d3, d4], _ => rfl
  · rw [Try.params3] at hx hty
    match xs, hx with
    | [x0, x1, x2, x3, x4], _ =>
      obtain ⟨z0, rfl⟩ := arg_int (hty 0 _ _ rfl rfl)
      obtain ⟨z1, rfl⟩ := arg_int (hty 1 _ _ rfl rfl)
      obtain ⟨z2, rfl⟩ := arg_int (hty 2 _ _ rfl rfl)
      obtain ⟨zs3, rfl, hhl3⟩ := arg_ints (hty 3 _ _ rfl rfl)
      obtain ⟨zs4, rfl, hhl4⟩ := arg_ints (hty 4 _ _ rfl rfl)
      exact ⟨_, ok3 [.i z0, .i z1, .i z2, .l (intCells zs3), .l (intCells zs4)] true (s3 z0 z1 z2 zs3 zs4)⟩

theorem joined3 : joinedFacts Try.prog 3 Try.f3 Rows.nodeParentSpec Rows.nodeParentRow = true := by
  unfold joinedFacts
  rw [enters, lifts, makeIs]
  change _ = _
  kernel_rfl

theorem holds3 : Rows.NodeParentSaid :=
  OpenClaim.holds_of_wide 3 Try.f3 rfl rfl rfl rfl rfl rfl rfl ⟨rfl, rfl, rfl, rfl, rfl⟩ rfl rfl rfl rfl rfl (by kernel_rfl) Try.func3 joined3
    (of_decide_eq_true (by kernel_rfl)) (by unfold Func.isWrapper; first | (rw [if_pos (by decide +kernel)]; kernel_rfl) | (rw [if_neg (by decide +kernel)]; exact ⟨rfl, rfl⟩))
    (fun os started H enc _ => lifted3 os started H enc)

#print axioms holds3
end Go.Proofs.Ytghkcniaialgnaa
