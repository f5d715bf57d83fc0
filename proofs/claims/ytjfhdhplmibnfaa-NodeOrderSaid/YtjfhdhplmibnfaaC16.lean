/- Less is a strict total order of Ids. No condition beyond those of the given statement. -/
import Derived.Test.YtjfhdhplmibnfaaL12c
namespace Go.Proofs.Ytjfhdhplmibnfaa
open Go Go.AM
set_option maxRecDepth 100000

theorem lifted16 (os : Os) (started : os.Started) (H : Type) (enc : TypeId × Value → H) :
    ReturnsInHanded {} Try.checked os 16 .any (Rows.nodeOrderSpec.pre6 enc Try.prog Try.f16 Rows.nodeOrderRow.domain false) (Rows.nodeOrderSpec.post enc Try.prog Try.f16 Rows.nodeOrderRow.apart Rows.nodeOrderRow.fresh Rows.nodeOrderRow.handsOn Rows.nodeOrderRow.again) := by
  refine returnsInHanded_of_change (C := Try.checked) ownKnobOk started (by kernel_rfl) Try.func16
    (ChangeSpec.witness6 (enc := enc) (C := Try.checked) false ⟨#[], #[.agg #[.int .i64 0, .int .i64 0, .int .i64 0], .agg #[.int .i64 0, .int .i64 0, .int .i64 0], .agg #[.int .i64 0, .int .i64 0, .int .i64 0]], []⟩ 8 (by kernel_rfl) (by kernel_rfl) (by kernel_rfl) (by kernel_rfl)) ?_
  intro W base args ds gs before hval hW _ _
  refine contract_true (d := 8) laid (fun t ht => parOk t ?_) (by kernel_rfl : Try.f16.resultTypes = #[4]) Try.underlying4 rfl (fun ds hd => ?_) (fun xs hx hty => ?_) W base args ds gs before hval hW
  · have : (Try.f16.params.toList.all fun t => parTs.contains t) = true := by kernel_rfl
    rw [List.all_eq_true] at this
    exact this t ht
  · rw [Try.params16] at hd
    match ds, hd with
    | [d0, d1, d2], _ => rfl
  · rw [Try.params16] at hx hty
    match xs, hx with
    | [x0, x1, x2], _ =>
      obtain ⟨ic0, io0, ip0, rfl⟩ := arg_id (hty 0 _ _ rfl rfl)
      obtain ⟨ic1, io1, ip1, rfl⟩ := arg_id (hty 1 _ _ rfl rfl)
      obtain ⟨ic2, io2, ip2, rfl⟩ := arg_id (hty 2 _ _ rfl rfl)
      exact ⟨_, ok16 [.i ic0, .i io0, .i ip0, .i ic1, .i io1, .i ip1, .i ic2, .i io2, .i ip2] true (s16 ic0 io0 ip0 ic1 io1 ip1 ic2 io2 ip2)⟩

theorem joined16 : joinedFacts Try.prog 16 Try.f16 Rows.nodeOrderSpec Rows.nodeOrderRow = true := by
  unfold joinedFacts
  rw [enters, lifts, makeIs]
  change _ = _
  kernel_rfl

theorem holds16 : Rows.NodeOrderSaid :=
  OpenClaim.holds_of_wide 16 Try.f16 rfl rfl rfl rfl rfl rfl rfl ⟨rfl, rfl, rfl, rfl, rfl⟩ rfl rfl rfl rfl rfl (by kernel_rfl) Try.func16 joined16
    (of_decide_eq_true (by kernel_rfl)) (by unfold Func.isWrapper; first | (rw [if_pos (by decide +kernel)]; kernel_rfl) | (rw [if_neg (by decide +kernel)]; exact ⟨rfl, rfl⟩))
    (fun os started H enc _ => lifted16 os started H enc)

#print axioms holds16
end Go.Proofs.Ytjfhdhplmibnfaa
