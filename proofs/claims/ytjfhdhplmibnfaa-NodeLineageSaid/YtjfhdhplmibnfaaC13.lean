/- A child is below its source and below everything that its source is below, and below nothing else. No condition beyond those of the given statement. -/
import Derived.Test.YtjfhdhplmibnfaaL12f
namespace Go.Proofs.Ytjfhdhplmibnfaa
open Go Go.AM
set_option maxRecDepth 100000

theorem lifted13 (os : Os) (started : os.Started) (H : Type) (enc : TypeId × Value → H) :
    ReturnsInHanded {} Try.checked os 13 .any (Rows.nodeLineageSpec.pre6 enc Try.prog Try.f13 Rows.nodeLineageRow.domain false) (Rows.nodeLineageSpec.post enc Try.prog Try.f13 Rows.nodeLineageRow.apart Rows.nodeLineageRow.fresh Rows.nodeLineageRow.handsOn Rows.nodeLineageRow.again) := by
  refine returnsInHanded_of_change (C := Try.checked) ownKnobOk started (by kernel_rfl) Try.func13
    (ChangeSpec.witness6 (enc := enc) (C := Try.checked) false ⟨#[], #[.int .i64 0, .int .i64 0, .int .i64 0, .slice none 0 0, .agg #[.int .i64 0, .int .i64 0, .int .i64 0], .agg #[.int .i64 0, .int .i64 0, .int .i64 0]], []⟩ 8 (by kernel_rfl) (by kernel_rfl) (by kernel_rfl) (by kernel_rfl)) ?_
  intro W base args ds gs before hval hW _ _
  refine contract_true (d := 8) laid (fun t ht => parOk t ?_) (by kernel_rfl : Try.f13.resultTypes = #[4]) Try.underlying4 rfl (fun ds hd => ?_) (fun xs hx hty => ?_) W base args ds gs before hval hW
  · have : (Try.f13.params.toList.all fun t => parTs.contains t) = true := by kernel_rfl
    rw [List.all_eq_true] at this
    exact this t ht
  · rw [Try.params13] at hd
    match ds, hd with
    | [d0, d1, d2, d3, d4, d5], _ => rfl
  · rw [Try.params13] at hx hty
    match xs, hx with
    | [x0, x1, x2, x3, x4, x5], _ =>
      obtain ⟨z0, rfl⟩ := arg_int (hty 0 _ _ rfl rfl)
      obtain ⟨z1, rfl⟩ := arg_int (hty 1 _ _ rfl rfl)
      obtain ⟨z2, rfl⟩ := arg_int (hty 2 _ _ rfl rfl)
      obtain ⟨zs3, rfl, hhl3⟩ := arg_ints (hty 3 _ _ rfl rfl)
      obtain ⟨ic4, io4, ip4, rfl⟩ := arg_id (hty 4 _ _ rfl rfl)
      obtain ⟨ic5, io5, ip5, rfl⟩ := arg_id (hty 5 _ _ rfl rfl)
      exact ⟨_, ok13 [.i z0, .i z1, .i z2, .l (intCells zs3), .i ic4, .i io4, .i ip4, .i ic5, .i io5, .i ip5] true (s13 z0 z1 z2 zs3 ⟨ic4, io4, ip4⟩ ⟨ic5, io5, ip5⟩)⟩

theorem joined13 : joinedFacts Try.prog 13 Try.f13 Rows.nodeLineageSpec Rows.nodeLineageRow = true := by
  unfold joinedFacts
  rw [enters, lifts, makeIs]
  change _ = _
  kernel_rfl

theorem holds13 : Rows.NodeLineageSaid :=
  OpenClaim.holds_of_wide 13 Try.f13 rfl rfl rfl rfl rfl rfl rfl ⟨rfl, rfl, rfl, rfl, rfl⟩ rfl rfl rfl rfl rfl (by kernel_rfl) Try.func13 joined13
    (of_decide_eq_true (by kernel_rfl)) (by unfold Func.isWrapper; first | (rw [if_pos (by decide +kernel)]; kernel_rfl) | (rw [if_neg (by decide +kernel)]; exact ⟨rfl, rfl⟩))
    (fun os started H enc _ => lifted13 os started H enc)

#print axioms holds13
end Go.Proofs.Ytjfhdhplmibnfaa
