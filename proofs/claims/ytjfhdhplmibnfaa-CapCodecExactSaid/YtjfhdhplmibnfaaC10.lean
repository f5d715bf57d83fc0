/- CapCodecExact returns true for every input, and its arguments read afterwards as before: Encode and Decode answer as the reference does. No condition beyond those of the given statement. -/
import Derived.Test.YtjfhdhplmibnfaaL11g
namespace Go.Proofs.Ytjfhdhplmibnfaa
open Go Go.AM
set_option maxRecDepth 100000

theorem lifted10 (os : Os) (started : os.Started) (H : Type) (enc : TypeId × Value → H) :
    ReturnsInHanded {} Try.checked os 10 .any (Rows.capCodecExactSpec.pre6 enc Try.prog Try.f10 Rows.capCodecExactRow.domain false) (Rows.capCodecExactSpec.post enc Try.prog Try.f10 Rows.capCodecExactRow.apart Rows.capCodecExactRow.fresh Rows.capCodecExactRow.handsOn Rows.capCodecExactRow.again) := by
  refine returnsInHanded_of_change (C := Try.checked) ownKnobOk started (by kernel_rfl) Try.func10
    (ChangeSpec.witness6 (enc := enc) (C := Try.checked) false ⟨#[], #[.agg #[.int .i64 0, .int .i64 0, .int .i64 0, .int .i64 0, .int .i64 0, .int .i64 0, .bool false], .slice none 0 0], []⟩ 8 (by kernel_rfl) (by kernel_rfl) (by kernel_rfl) (by kernel_rfl)) ?_
  intro W base args ds gs before hval hW _ _
  refine contract_true (d := 8) laid (fun t ht => parOk t ?_) (by kernel_rfl : Try.f10.resultTypes = #[4]) Try.underlying4 rfl (fun ds hd => ?_) (fun xs hx hty => ?_) W base args ds gs before hval hW
  · have : (Try.f10.params.toList.all fun t => parTs.contains t) = true := by kernel_rfl
    rw [List.all_eq_true] at this
    exact this t ht
  · rw [Try.params10] at hd
    match ds, hd with
    | [d0, d1], _ => rfl
  · rw [Try.params10] at hx hty
    match xs, hx with
    | [x0, x1], _ =>
      obtain ⟨k0, b0, s0, r0, w0, l0, d0, rfl⟩ := arg_cap (hty 0 _ _ rfl rfl)
      obtain ⟨bs1, rfl, hhl1, hhw1⟩ := arg_bytes (hty 1 _ _ rfl rfl)
      exact ⟨_, ok10 [.i k0, .i b0, .i s0, .i r0, .i w0, .i l0, .b d0, .l (byteCells bs1)] true (s10 k0 b0 s0 r0 w0 l0 d0 bs1 hhw1)⟩

theorem joined10 : joinedFacts Try.prog 10 Try.f10 Rows.capCodecExactSpec Rows.capCodecExactRow = true := by
  unfold joinedFacts
  rw [enters, lifts, makeIs]
  change _ = _
  kernel_rfl

theorem holds10 : Rows.CapCodecExactSaid :=
  OpenClaim.holds_of_wide 10 Try.f10 rfl rfl rfl rfl rfl rfl rfl ⟨rfl, rfl, rfl, rfl, rfl⟩ rfl rfl rfl rfl rfl (by kernel_rfl) Try.func10 joined10
    (of_decide_eq_true (by kernel_rfl)) (by unfold Func.isWrapper; first | (rw [if_pos (by decide +kernel)]; kernel_rfl) | (rw [if_neg (by decide +kernel)]; exact ⟨rfl, rfl⟩))
    (fun os started H enc _ => lifted10 os started H enc)

#print axioms holds10
end Go.Proofs.Ytjfhdhplmibnfaa
