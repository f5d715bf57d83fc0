/- Child equals the reference, for arbitrary arguments. No condition beyond those of the given statement. -/
import Derived.Test.YtjfhdhplmibnfaaL12d
namespace Go.Proofs.Ytjfhdhplmibnfaa
open Go Go.AM
set_option maxRecDepth 100000

theorem lifted12 (os : Os) (started : os.Started) (H : Type) (enc : TypeId × Value → H) :
    ReturnsInHanded {} Try.checked os 12 .any (Rows.nodeChildExactSpec.pre6 enc Try.prog Try.f12 Rows.nodeChildExactRow.domain false) (Rows.nodeChildExactSpec.post enc Try.prog Try.f12 Rows.nodeChildExactRow.apart Rows.nodeChildExactRow.fresh Rows.nodeChildExactRow.handsOn Rows.nodeChildExactRow.again) := by
  refine returnsInHanded_of_change (C := Try.checked) ownKnobOk started (by kernel_rfl) Try.func12
    (ChangeSpec.witness6 (enc := enc) (C := Try.checked) false ⟨#[], #[.agg #[.int .i64 0, .int .i64 0, .int .i64 0, .slice none 0 0, .int .i64 0, .int .i64 0, .int .i64 0, .int .i64 0, .int .i64 0, .int .i64 0, .bool false], .agg #[.int .i64 0, .int .i64 0, .int .i64 0], .agg #[.int .i64 0, .int .i64 0, .int .i64 0, .int .i64 0, .int .i64 0, .int .i64 0, .bool false]], []⟩ 8 (by kernel_rfl) (by kernel_rfl) (by kernel_rfl) (by kernel_rfl)) ?_
  intro W base args ds gs before hval hW _ _
  refine contract_true (d := 8) laid (fun t ht => parOk t ?_) (by kernel_rfl : Try.f12.resultTypes = #[4]) Try.underlying4 rfl (fun ds hd => ?_) (fun xs hx hty => ?_) W base args ds gs before hval hW
  · have : (Try.f12.params.toList.all fun t => parTs.contains t) = true := by kernel_rfl
    rw [List.all_eq_true] at this
    exact this t ht
  · rw [Try.params12] at hd
    match ds, hd with
    | [d0, d1, d2], _ => rfl
  · rw [Try.params12] at hx hty
    match xs, hx with
    | [x0, x1, x2], _ =>
      obtain ⟨ic0, io0, ip0, path0, k0, b0, s0, r0, w0, l0, d0, rfl, hhl0⟩ := arg_node (hty 0 _ _ rfl rfl)
      obtain ⟨ic1, io1, ip1, rfl⟩ := arg_id (hty 1 _ _ rfl rfl)
      obtain ⟨k2, b2, s2, r2, w2, l2, d2, rfl⟩ := arg_cap (hty 2 _ _ rfl rfl)
      exact ⟨_, ok12 [.i ic0, .i io0, .i ip0, .l (idCells path0), .i k0, .i b0, .i s0, .i r0, .i w0, .i l0, .b d0, .i ic1, .i io1, .i ip1, .i k2, .i b2, .i s2, .i r2, .i w2, .i l2, .b d2] true (s12 ic0 io0 ip0 path0 k0 b0 s0 r0 w0 l0 d0 ic1 io1 ip1 k2 b2 s2 r2 w2 l2 d2)⟩

theorem joined12 : joinedFacts Try.prog 12 Try.f12 Rows.nodeChildExactSpec Rows.nodeChildExactRow = true := by
  unfold joinedFacts
  rw [enters, lifts, makeIs]
  change _ = _
  kernel_rfl

theorem holds12 : Rows.NodeChildExactSaid :=
  OpenClaim.holds_of_wide 12 Try.f12 rfl rfl rfl rfl rfl rfl rfl ⟨rfl, rfl, rfl, rfl, rfl⟩ rfl rfl rfl rfl rfl (by kernel_rfl) Try.func12 joined12
    (of_decide_eq_true (by kernel_rfl)) (by unfold Func.isWrapper; first | (rw [if_pos (by decide +kernel)]; kernel_rfl) | (rw [if_neg (by decide +kernel)]; exact ⟨rfl, rfl⟩))
    (fun os started H enc _ => lifted12 os started H enc)

#print axioms holds12
end Go.Proofs.Ytjfhdhplmibnfaa
