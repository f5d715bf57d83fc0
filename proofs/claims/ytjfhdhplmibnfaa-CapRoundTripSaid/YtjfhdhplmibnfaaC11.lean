/- CapRoundTrip returns true for every input, and its arguments read afterwards as before: a valid capability survives Encode and Decode, and bytes that are decoded are encoded as they were. No condition beyond those of the given statement. -/
import Derived.Test.YtjfhdhplmibnfaaL11g
namespace Go.Proofs.Ytjfhdhplmibnfaa
open Go Go.AM
set_option maxRecDepth 100000

theorem lifted11 (os : Os) (started : os.Started) (H : Type) (enc : TypeId × Value → H) :
    ReturnsInHanded {} Try.checked os 11 .any (Rows.capRoundTripSpec.pre6 enc Try.prog Try.f11 Rows.capRoundTripRow.domain false) (Rows.capRoundTripSpec.post enc Try.prog Try.f11 Rows.capRoundTripRow.apart Rows.capRoundTripRow.fresh Rows.capRoundTripRow.handsOn Rows.capRoundTripRow.again) := by
  refine returnsInHanded_of_change (C := Try.checked) ownKnobOk started (by kernel_rfl) Try.func11
    (ChangeSpec.witness6 (enc := enc) (C := Try.checked) false ⟨#[], #[.int .i64 0, .int .i64 0, .int .i64 0, .int .i64 0, .int .i64 0, .slice none 0 0], []⟩ 8 (by kernel_rfl) (by kernel_rfl) (by kernel_rfl) (by kernel_rfl)) ?_
  intro W base args ds gs before hval hW _ _
  refine contract_true (d := 8) laid (fun t ht => parOk t ?_) (by kernel_rfl : Try.f11.resultTypes = #[4]) Try.underlying4 rfl (fun ds hd => ?_) (fun xs hx hty => ?_) W base args ds gs before hval hW
  · have : (Try.f11.params.toList.all fun t => parTs.contains t) = true := by kernel_rfl
    rw [List.all_eq_true] at this
    exact this t ht
  · rw [Try.params11] at hd
    match ds, hd with
    | [d0, d1, d2, d3, d4, d5], _ => rfl
  · rw [Try.params11] at hx hty
    match xs, hx with
    | [x0, x1, x2, x3, x4, x5], _ =>
      obtain ⟨z0, rfl⟩ := arg_int (hty 0 _ _ rfl rfl)
      obtain ⟨z1, rfl⟩ := arg_int (hty 1 _ _ rfl rfl)
      obtain ⟨z2, rfl⟩ := arg_int (hty 2 _ _ rfl rfl)
      obtain ⟨z3, rfl⟩ := arg_int (hty 3 _ _ rfl rfl)
      obtain ⟨z4, rfl⟩ := arg_int (hty 4 _ _ rfl rfl)
      obtain ⟨bs5, rfl, hhl5, hhw5⟩ := arg_bytes (hty 5 _ _ rfl rfl)
      exact ⟨_, ok11 [.i z0, .i z1, .i z2, .i z3, .i z4, .l (byteCells bs5)] true (s11 z0 z1 z2 z3 z4 bs5 hhw5)⟩

theorem joined11 : joinedFacts Try.prog 11 Try.f11 Rows.capRoundTripSpec Rows.capRoundTripRow = true := by
  unfold joinedFacts
  rw [enters, lifts, makeIs]
  change _ = _
  kernel_rfl

theorem holds11 : Rows.CapRoundTripSaid :=
  OpenClaim.holds_of_wide 11 Try.f11 rfl rfl rfl rfl rfl rfl rfl ⟨rfl, rfl, rfl, rfl, rfl⟩ rfl rfl rfl rfl rfl (by kernel_rfl) Try.func11 joined11
    (of_decide_eq_true (by kernel_rfl)) (by unfold Func.isWrapper; first | (rw [if_pos (by decide +kernel)]; kernel_rfl) | (rw [if_neg (by decide +kernel)]; exact ⟨rfl, rfl⟩))
    (fun os started H enc _ => lifted11 os started H enc)

#print axioms holds11
end Go.Proofs.Ytjfhdhplmibnfaa
