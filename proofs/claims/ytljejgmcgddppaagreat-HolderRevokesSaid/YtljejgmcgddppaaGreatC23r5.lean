/- A lock, a mark and a sweep, each answered once, remove exactly the locked nodes. No condition beyond those of the given statement. -/
import Derived.Test.YtljejgmcgddppaaGreatM6
namespace Go.Proofs.YtljejgmcgddppaaGreat
open Go Go.AM
set_option maxRecDepth 100000
theorem lifted5 (os : Os) (started : os.Started) (H : Type) (enc : TypeId × Value → H) :
  ReturnsInHanded {} Tryz.checked os 5 .any (Rows.holderRevokesSpec.pre6 enc Tryz.prog Tryz.f5 Rows.holderRevokesRow.domain false) (Rows.holderRevokesSpec.post enc Tryz.prog Tryz.f5 Rows.holderRevokesRow.apart Rows.holderRevokesRow.fresh Rows.holderRevokesRow.handsOn Rows.holderRevokesRow.again) := by
 refine returnsInHanded_of_change (C := Tryz.checked) ownKnobOk started (by kernel_rfl) Tryz.func5
  (ChangeSpec.witness6 (enc := enc) (C := Tryz.checked) false ⟨#[], #[.int .i64 0, .slice none 0 0, .slice none 0 0], []⟩ 12 (by kernel_rfl) (by kernel_rfl) (by kernel_rfl) (by kernel_rfl)) ?_
 intro W base args ds gs before hval hW _ _
 refine contract_true (d := 12) laid (fun t ht => parOk t ?_) (by kernel_rfl : Tryz.f5.resultTypes = #[4]) Tryz.underlying4 rfl (fun ds hd => ?_) (fun xs hx hty => ?_) W base args ds gs before hval hW
 ·have : (Tryz.f5.params.toList.all fun t => parTs.contains t) = true := by kernel_rfl
  rw [List.all_eq_true] at this
  exact this t ht
 ·rw [Tryz.params5] at hd
  match ds, hd with
  | [d0, d1, d2], _ => rfl
 ·rw [Tryz.params5] at hx hty
  match xs, hx with
  | [x0, x1, x2], _ =>
   obtain ⟨z0, rfl⟩ := arg_int (hty 0 _ _ rfl rfl)
   obtain ⟨sts1, rfl, hn1⟩ := arg_steps (hty 1 _ _ rfl rfl)
   obtain ⟨zs2, rfl, hhl2⟩ := arg_ints (hty 2 _ _ rfl rfl)
   have e1 : apsDen F5.S.args [.i z0, .l (sts1.map stepc), .l (intCells zs2)] 0 = [I z0, .slice false 10 (sts1.map stepc), .slice false 1 (intCells zs2)] := by kernel_rfl
   have e2 : (g5 z0 ((sts1.map stepc)) ((intCells zs2)) = some true) = (F5.S.g [.i z0, .l (sts1.map stepc), .l (intCells zs2)] = some (cast (by kernel_rfl : Bool = ShsT (shsOf F5.S.res F5.S.args)) true)) := by kernel_rfl
   have e3 : resDen F5.S.res (toVs (shsOf F5.S.res F5.S.args) (cast (by kernel_rfl : Bool = ShsT (shsOf F5.S.res F5.S.args)) true)) 0 = .val (.bool true) := by kernel_rfl
   have h2 := Eq.mp e2 (s5 z0 sts1 hn1 zs2)
   have h := ok5 _ _ h2
   rw [e1, e3] at h
   exact ⟨_, h⟩
theorem joined5 : joinedFacts Tryz.prog 5 Tryz.f5 Rows.holderRevokesSpec Rows.holderRevokesRow = true := by
 unfold joinedFacts
 rw [enters, lifts, makeIs]
 change _ = _
 kernel_rfl
theorem holds5 : Rows.HolderRevokesSaid :=
 OpenClaim.holds_of_wide 5 Tryz.f5 rfl rfl rfl rfl rfl rfl rfl ⟨rfl, rfl, rfl, rfl, rfl⟩ rfl rfl rfl rfl rfl (by kernel_rfl) Tryz.func5 joined5
  (of_decide_eq_true (by kernel_rfl)) (by unfold Func.isWrapper; first | (rw [if_pos (by decide +kernel)]; kernel_rfl) | (rw [if_neg (by decide +kernel)]; exact ⟨rfl, rfl⟩))
  (fun os started H enc _ => lifted5 os started H enc)
#print axioms holds5
end Go.Proofs.YtljejgmcgddppaaGreat
