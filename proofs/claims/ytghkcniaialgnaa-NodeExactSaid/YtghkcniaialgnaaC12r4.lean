/- NodeExact: ValidId, Valid, Less, Equal, Below and Parent equal the reference, for arbitrary nodes and Ids. No condition beyond those of the given statement. -/
import Derived.Test.YtghkcniaialgnaaM6
namespace Go.Proofs.Ytghkcniaialgnaa
open Go Go.AM
set_option maxRecDepth 100000

theorem lifted4 (os : Os) (started : os.Started) (H : Type) (enc : TypeId × Value → H) :
    ReturnsInHanded {} Try.checked os 4 .any (Rows.nodeExactSpec.pre6 enc Try.prog Try.f4 Rows.nodeExactRow.domain false) (Rows.nodeExactSpec.post enc Try.prog Try.f4 Rows.nodeExactRow.apart Rows.nodeExactRow.fresh Rows.nodeExactRow.handsOn Rows.nodeExactRow.again) := by
  refine returnsInHanded_of_change (C := Try.checked) ownKnobOk started (by kernel_rfl) Try.func4
    (ChangeSpec.witness6 (enc := enc) (C := Try.checked) false ⟨#[], #[.agg #[.int .i64 0, .int .i64 0, .int .i64 0, .slice none 0 0, .int .i64 0, .int .i64 0, .int .i64 0, .int .i64 0, .int .i64 0, .int .i64 0, .bool false], .agg #[.int .i64 0, .int .i64 0, .int .i64 0, .slice none 0 0, .int .i64 0, .int .i64 0, .int .i64 0, .int .i64 0, .int .i64 0, .int .i64 0, .bool false], .agg #[.int .i64 0, .int .i64 0, .int .i64 0], .agg #[.int .i64 0, .int .i64 0, .int .i64 0], .slice none 0 0], []⟩ 12 (by kernel_rfl) (by kernel_rfl) (by kernel_rfl) (by kernel_rfl)) ?_
  intro W base args ds gs before hval hW _ _
  refine contract_true (d := 12) laid (fun t ht => parOk t ?_) (by kernel_rfl : Try.f4.resultTypes = #[4]) Try.underlying4 rfl (fun ds hd => ?_) (fun xs hx hty => ?_) W base args ds gs before hval hW
  · have : (Try.f4.params.toList.all fun t => parTs.contains t) = true := by kernel_rfl
    rw [List.all_eq_true] at this
    exact this t ht
  · rw [Try.params4] at hd
    match ds, hd with
    | [d0, d1, d2, d3, d4], _ => rfl
  · rw [Try.params4] at hx hty
    match xs, hx with
    | [x0, x1, x2, x3, x4], _ =>
      obtain ⟨ic0, io0, ip0, path0, k0, b0, s0, r0, w0, l0, d0, rfl, hhl0⟩ := arg_node (hty 0 _ _ rfl rfl)
      obtain ⟨ic1, io1, ip1, path1, k1, b1, s1, r1, w1, l1, d1, rfl, hhl1⟩ := arg_node (hty 1 _ _ rfl rfl)
      obtain ⟨ic2, io2, ip2, rfl⟩ := arg_id (hty 2 _ _ rfl rfl)
      obtain ⟨ic3, io3, ip3, rfl⟩ := arg_id (hty 3 _ _ rfl rfl)
      obtain ⟨ids4, rfl, hhl4⟩ := arg_ids (hty 4 _ _ rfl rfl)
      exact ⟨_, ok4 [.i ic0, .i io0, .i ip0, .l (idCells path0), .i k0, .i b0, .i s0, .i r0, .i w0, .i l0, .b d0, .i ic1, .i io1, .i ip1, .l (idCells path1), .i k1, .i b1, .i s1, .i r1, .i w1, .i l1, .b d1, .i ic2, .i io2, .i ip2, .i ic3, .i io3, .i ip3, .l (idCells ids4)] true (s4t ic0 io0 ip0 path0 k0 b0 s0 r0 w0 l0 d0 ic1 io1 ip1 path1 k1 b1 s1 r1 w1 l1 d1 ic2 io2 ip2 ic3 io3 ip3 ids4)⟩

theorem joined4 : joinedFacts Try.prog 4 Try.f4 Rows.nodeExactSpec Rows.nodeExactRow = true := by
  unfold joinedFacts
  rw [enters, lifts, makeIs]
  change _ = _
  kernel_rfl

theorem holds4 : Rows.NodeExactSaid :=
  OpenClaim.holds_of_wide 4 Try.f4 rfl rfl rfl rfl rfl rfl rfl ⟨rfl, rfl, rfl, rfl, rfl⟩ rfl rfl rfl rfl rfl (by kernel_rfl) Try.func4 joined4
    (of_decide_eq_true (by kernel_rfl)) (by unfold Func.isWrapper; first | (rw [if_pos (by decide +kernel)]; kernel_rfl) | (rw [if_neg (by decide +kernel)]; exact ⟨rfl, rfl⟩))
    (fun os started H enc _ => lifted4 os started H enc)

#print axioms holds4
end Go.Proofs.Ytghkcniaialgnaa
