/- There is at most one mark for each region; a lock clears the mark of its region only; marks ascend. No condition beyond those of the given statement. -/
import Derived.Test.YtljejgmcgddppaaM5
namespace Go.Proofs.Ytljejgmcgddppaa
open Go Go.AM
set_option maxRecDepth 100000
theorem lifted3 (os : Os) (started : os.Started) (H : Type) (enc : TypeId × Value → H) :
  ReturnsInHanded {} Try.checked os 3 .any (Rows.holderMarksSpec.pre6 enc Try.prog Try.f3 Rows.holderMarksRow.domain false) (Rows.holderMarksSpec.post enc Try.prog Try.f3 Rows.holderMarksRow.apart Rows.holderMarksRow.fresh Rows.holderMarksRow.handsOn Rows.holderMarksRow.again) := by
 refine returnsInHanded_of_change (C := Try.checked) ownKnobOk started (by kernel_rfl) Try.func3
  (ChangeSpec.witness6 (enc := enc) (C := Try.checked) false ⟨#[], #[.slice none 0 0], []⟩ 12 (by kernel_rfl) (by kernel_rfl) (by kernel_rfl) (by kernel_rfl)) ?_
 intro W base args ds gs before hval hW _ _
 refine contract_true (d := 12) laid (fun t ht => parOk t ?_) (by kernel_rfl : Try.f3.resultTypes = #[4]) Try.underlying4 rfl (fun ds hd => ?_) (fun xs hx hty => ?_) W base args ds gs before hval hW
 ·have : (Try.f3.params.toList.all fun t => parTs.contains t) = true := by kernel_rfl
  rw [List.all_eq_true] at this
  exact this t ht
 ·rw [Try.params3] at hd
  match ds, hd with
  | [d0], _ => rfl
 ·rw [Try.params3] at hx hty
  match xs, hx with
  | [x0], _ =>
   obtain ⟨zs0, rfl, hhl0⟩ := arg_ints (hty 0 _ _ rfl rfl)
   exact ⟨_, ok3 [.l (intCells zs0)] true (s3 zs0 (le63 hhl0))⟩
theorem joined3 : joinedFacts Try.prog 3 Try.f3 Rows.holderMarksSpec Rows.holderMarksRow = true := by
 unfold joinedFacts
 rw [enters, lifts, makeIs]
 change _ = _
 kernel_rfl
theorem holds3 : Rows.HolderMarksSaid :=
 OpenClaim.holds_of_wide 3 Try.f3 rfl rfl rfl rfl rfl rfl rfl ⟨rfl, rfl, rfl, rfl, rfl⟩ rfl rfl rfl rfl rfl (by kernel_rfl) Try.func3 joined3
  (of_decide_eq_true (by kernel_rfl)) (by unfold Func.isWrapper; first | (rw [if_pos (by decide +kernel)]; kernel_rfl) | (rw [if_neg (by decide +kernel)]; exact ⟨rfl, rfl⟩))
  (fun os started H enc _ => lifted3 os started H enc)
#print axioms holds3
end Go.Proofs.Ytljejgmcgddppaa
