/- The statement ClientOrder holds: requests are pending in ascending order of operations, and are sent in that order to the owners of their regions. No condition beyond those of the given statement. -/
import Derived.Test.YtmgfkjonkdfedaaGreatM5
namespace Go.Proofs.YtmgfkjonkdfedaaGreat
open Go Go.AM
set_option maxRecDepth 100000

theorem lifted5 (os : Os) (started : os.Started) (H : Type) (enc : TypeId × Value → H) :
    ReturnsInHanded {} Tryz.checked os 5 .any (Rows.clientOrderSpec.pre6 enc Tryz.prog Tryz.f5 Rows.clientOrderRow.domain false) (Rows.clientOrderSpec.post enc Tryz.prog Tryz.f5 Rows.clientOrderRow.apart Rows.clientOrderRow.fresh Rows.clientOrderRow.handsOn Rows.clientOrderRow.again) := by
  refine returnsInHanded_of_change (C := Tryz.checked) ownKnobOk started (by kernel_rfl) Tryz.func5
    (ChangeSpec.witness6 (enc := enc) (C := Tryz.checked) false ⟨#[], #[.slice none 0 0, .slice none 0 0], []⟩ 12 (by kernel_rfl) (by kernel_rfl) (by kernel_rfl) (by kernel_rfl)) ?_
  intro W base args ds gs before hval hW _ _
  refine contract_true (d := 12) laid (fun t ht => parOk t ?_) (by kernel_rfl : Tryz.f5.resultTypes = #[4]) Tryz.underlying4 rfl (fun ds hd => ?_) (fun xs hx hty => ?_) W base args ds gs before hval hW
  · have : (Tryz.f5.params.toList.all fun t => parTs.contains t) = true := by kernel_rfl
    rw [List.all_eq_true] at this
    exact this t ht
  · rw [Tryz.params5] at hd
    match ds, hd with
    | [d0, d1], _ => rfl
  · rw [Tryz.params5] at hx hty
    match xs, hx with
    | [x0, x1], _ =>
      obtain ⟨zs0, rfl, hl0⟩ := arg_ints (hty 0 _ _ rfl rfl)
      obtain ⟨zs1, rfl, hl1⟩ := arg_ints (hty 1 _ _ rfl rfl)
      exact ⟨_, ok5 [.l (intCells zs0), .l (intCells zs1)] true (s5 zs0 zs1 (le63 hl0) (le63 hl1))⟩

theorem joined5 : joinedFacts Tryz.prog 5 Tryz.f5 Rows.clientOrderSpec Rows.clientOrderRow = true := by
  unfold joinedFacts
  rw [enters, lifts, makeIs]
  change _ = _
  kernel_rfl

theorem holds5 : Rows.ClientOrderSaid :=
  OpenClaim.holds_of_wide 5 Tryz.f5 rfl rfl rfl rfl rfl rfl rfl ⟨rfl, rfl, rfl, rfl, rfl⟩ rfl rfl rfl rfl rfl (by kernel_rfl) Tryz.func5 joined5
    (of_decide_eq_true (by kernel_rfl)) (by unfold Func.isWrapper; first | (rw [if_pos (by decide +kernel)]; kernel_rfl) | (rw [if_neg (by decide +kernel)]; exact ⟨rfl, rfl⟩))
    (fun os started H enc _ => lifted5 os started H enc)

#print axioms holds5
end Go.Proofs.YtmgfkjonkdfedaaGreat
