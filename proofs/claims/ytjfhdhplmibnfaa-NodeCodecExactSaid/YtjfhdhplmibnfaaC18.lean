/- Encode and Decode equal the reference, for arbitrary nodes and bytes. No condition beyond those of the given statement. -/
import Derived.Test.YtjfhdhplmibnfaaM5
namespace Go.Proofs.Ytjfhdhplmibnfaa
open Go Go.AM
set_option maxRecDepth 100000

theorem lifted18 (os : Os) (started : os.Started) (H : Type) (enc : TypeId × Value → H) :
    ReturnsInHanded {} Try.checked os 18 .any (Rows.nodeCodecExactSpec.pre6 enc Try.prog Try.f18 Rows.nodeCodecExactRow.domain false) (Rows.nodeCodecExactSpec.post enc Try.prog Try.f18 Rows.nodeCodecExactRow.apart Rows.nodeCodecExactRow.fresh Rows.nodeCodecExactRow.handsOn Rows.nodeCodecExactRow.again) := by
  refine returnsInHanded_of_change (C := Try.checked) ownKnobOk started (by kernel_rfl) Try.func18
    (ChangeSpec.witness6 (enc := enc) (C := Try.checked) false ⟨#[], #[.agg #[.int .i64 0, .int .i64 0, .int .i64 0, .slice none 0 0, .int .i64 0, .int .i64 0, .int .i64 0, .int .i64 0, .int .i64 0, .int .i64 0, .bool false], .slice none 0 0], []⟩ 8 (by kernel_rfl) (by kernel_rfl) (by kernel_rfl) (by kernel_rfl)) ?_
  intro W base args ds gs before hval hW _ _
  refine contract_true (d := 8) laid (fun t ht => parOk t ?_) (by kernel_rfl : Try.f18.resultTypes = #[4]) Try.underlying4 rfl (fun ds hd => ?_) (fun xs hx hty => ?_) W base args ds gs before hval hW
  · have : (Try.f18.params.toList.all fun t => parTs.contains t) = true := by kernel_rfl
    rw [List.all_eq_true] at this
    exact this t ht
  · rw [Try.params18] at hd
    match ds, hd with
    | [d0, d1], _ => rfl
  · rw [Try.params18] at hx hty
    match xs, hx with
    | [x0, x1], _ =>
      obtain ⟨ic0, io0, ip0, path0, k0, b0, s0, r0, w0, l0, d0, rfl, hhl0⟩ := arg_node (hty 0 _ _ rfl rfl)
      obtain ⟨bs1, rfl, hhl1, hhw1⟩ := arg_bytes (hty 1 _ _ rfl rfl)
      exact ⟨_, ok18 [.i ic0, .i io0, .i ip0, .l (idCells path0), .i k0, .i b0, .i s0, .i r0, .i w0, .i l0, .b d0, .l (byteCells bs1)] true (s18 ⟨⟨ic0, io0, ip0⟩, path0, ⟨k0, b0, s0, r0, w0, l0, d0⟩⟩ bs1 hhw1)⟩

theorem joined18 : joinedFacts Try.prog 18 Try.f18 Rows.nodeCodecExactSpec Rows.nodeCodecExactRow = true := by
  unfold joinedFacts
  rw [enters, lifts, makeIs]
  change _ = _
  kernel_rfl

theorem holds18 : Rows.NodeCodecExactSaid :=
  OpenClaim.holds_of_wide 18 Try.f18 rfl rfl rfl rfl rfl rfl rfl ⟨rfl, rfl, rfl, rfl, rfl⟩ rfl rfl rfl rfl rfl (by kernel_rfl) Try.func18 joined18
    (of_decide_eq_true (by kernel_rfl)) (by unfold Func.isWrapper; first | (rw [if_pos (by decide +kernel)]; kernel_rfl) | (rw [if_neg (by decide +kernel)]; exact ⟨rfl, rfl⟩))
    (fun os started H enc _ => lifted18 os started H enc)

#print axioms holds18
end Go.Proofs.Ytjfhdhplmibnfaa
