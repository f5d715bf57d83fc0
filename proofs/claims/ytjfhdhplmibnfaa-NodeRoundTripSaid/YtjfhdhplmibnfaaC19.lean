/- A valid node survives Encode and Decode, decoded bytes are encoded as they were, and an encoding with a byte added or removed at its end is not decoded. No condition beyond those of the given statement. -/
import Derived.Test.YtjfhdhplmibnfaaL12k
namespace Go.Proofs.Ytjfhdhplmibnfaa
open Go Go.AM
set_option maxRecDepth 100000

theorem lifted19 (os : Os) (started : os.Started) (H : Type) (enc : TypeId × Value → H) :
    ReturnsInHanded {} Try.checked os 19 .any (Rows.nodeRoundTripSpec.pre6 enc Try.prog Try.f19 Rows.nodeRoundTripRow.domain false) (Rows.nodeRoundTripSpec.post enc Try.prog Try.f19 Rows.nodeRoundTripRow.apart Rows.nodeRoundTripRow.fresh Rows.nodeRoundTripRow.handsOn Rows.nodeRoundTripRow.again) := by
  refine returnsInHanded_of_change (C := Try.checked) ownKnobOk started (by kernel_rfl) Try.func19
    (ChangeSpec.witness6 (enc := enc) (C := Try.checked) false ⟨#[], #[.int .i64 0, .int .i64 0, .int .i64 0, .slice none 0 0, .int .i64 0, .int .i64 0, .int .i64 0, .slice none 0 0], []⟩ 8 (by kernel_rfl) (by kernel_rfl) (by kernel_rfl) (by kernel_rfl)) ?_
  intro W base args ds gs before hval hW _ _
  refine contract_true (d := 8) laid (fun t ht => parOk t ?_) (by kernel_rfl : Try.f19.resultTypes = #[4]) Try.underlying4 rfl (fun ds hd => ?_) (fun xs hx hty => ?_) W base args ds gs before hval hW
  · have : (Try.f19.params.toList.all fun t => parTs.contains t) = true := by kernel_rfl
    rw [List.all_eq_true] at this
    exact this t ht
  · rw [Try.params19] at hd
    match ds, hd with
    | [d0, d1, d2, d3, d4, d5, d6, d7], _ => rfl
  · rw [Try.params19] at hx hty
    match xs, hx with
    | [x0, x1, x2, x3, x4, x5, x6, x7], _ =>
      obtain ⟨z0, rfl⟩ := arg_int (hty 0 _ _ rfl rfl)
      obtain ⟨z1, rfl⟩ := arg_int (hty 1 _ _ rfl rfl)
      obtain ⟨z2, rfl⟩ := arg_int (hty 2 _ _ rfl rfl)
      obtain ⟨zs3, rfl, hhl3⟩ := arg_ints (hty 3 _ _ rfl rfl)
      obtain ⟨z4, rfl⟩ := arg_int (hty 4 _ _ rfl rfl)
      obtain ⟨z5, rfl⟩ := arg_int (hty 5 _ _ rfl rfl)
      obtain ⟨z6, rfl⟩ := arg_int (hty 6 _ _ rfl rfl)
      obtain ⟨bs7, rfl, hhl7, hhw7⟩ := arg_bytes (hty 7 _ _ rfl rfl)
      exact ⟨_, ok19 [.i z0, .i z1, .i z2, .l (intCells zs3), .i z4, .i z5, .i z6, .l (byteCells bs7)] true (s19 z0 z1 z2 zs3 z4 z5 z6 bs7 hhw7)⟩

theorem joined19 : joinedFacts Try.prog 19 Try.f19 Rows.nodeRoundTripSpec Rows.nodeRoundTripRow = true := by
  unfold joinedFacts
  rw [enters, lifts, makeIs]
  change _ = _
  kernel_rfl

theorem holds19 : Rows.NodeRoundTripSaid :=
  OpenClaim.holds_of_wide 19 Try.f19 rfl rfl rfl rfl rfl rfl rfl ⟨rfl, rfl, rfl, rfl, rfl⟩ rfl rfl rfl rfl rfl (by kernel_rfl) Try.func19 joined19
    (of_decide_eq_true (by kernel_rfl)) (by unfold Func.isWrapper; first | (rw [if_pos (by decide +kernel)]; kernel_rfl) | (rw [if_neg (by decide +kernel)]; exact ⟨rfl, rfl⟩))
    (fun os started H enc _ => lifted19 os started H enc)

#print axioms holds19
end Go.Proofs.Ytjfhdhplmibnfaa
