/- Requests of many cores are executed one at a time, in the order of their submission, each answered once. No condition beyond those of the given statement. -/
import Derived.Test.YtlgmnddelljbmaaGreatM5
namespace Go.Proofs.YtlgmnddelljbmaaGreat
open Go Go.AM
set_option maxRecDepth 100000
theorem Zjd (os:Os) (started:os.Started) (H:Type) (enc:TypeId×Value→H) :
  ReturnsInHanded {} Tryz.checked os 5 .any (Rows.ownerInOrderSpec.pre6 enc Tryz.prog Tryz.f5 Rows.ownerInOrderRow.domain false) (Rows.ownerInOrderSpec.post enc Tryz.prog Tryz.f5 Rows.ownerInOrderRow.apart Rows.ownerInOrderRow.fresh Rows.ownerInOrderRow.handsOn Rows.ownerInOrderRow.again):=by
 refine returnsInHanded_of_change (C:=Tryz.checked) ZfS started (by kernel_rfl) Tryz.func5
  (ChangeSpec.witness6 (enc:=enc) (C:=Tryz.checked) false ⟨#[],#[.slice none 0 0],[]⟩ 12 (by kernel_rfl) (by kernel_rfl) (by kernel_rfl) (by kernel_rfl)) ?_
 intro W base args ds gs before hval hW _ _
 refine ZbZ (d:=12) Zo2 (fun t ht=>ZnN t ?_) (by kernel_rfl:Tryz.f5.resultTypes = #[4]) Tryz.underlying4 rfl (fun ds hd=>?_) (fun xs hx hty=>?_) W base args ds gs before hval hW
 ·have:(Tryz.f5.params.toList.all fun t=>Zi6.contains t)=true:=by kernel_rfl
  rw [List.all_eq_true] at this
  exact this t ht
 ·rw [Tryz.params5] at hd
  match ds,hd with
  | [d0], _ => rfl
 ·rw [Tryz.params5] at hx hty
  match xs,hx with
  | [x0], _ =>
   obtain ⟨zs0,rfl,hhl0⟩:=Zip (hty 0 _ _ rfl rfl)
   exact ⟨_,ok5 [.l (ZL zs0)] true (s5 zs0)⟩
theorem ZjW:joinedFacts Tryz.prog 5 Tryz.f5 Rows.ownerInOrderSpec Rows.ownerInOrderRow=true:=by
 unfold joinedFacts
 rw [Zkz,ZmG,Zk6]
 change _=_
 kernel_rfl
theorem holds5:Rows.OwnerInOrderSaid:=
 OpenClaim.holds_of_wide 5 Tryz.f5 rfl rfl rfl rfl rfl rfl rfl ⟨rfl,rfl,rfl,rfl,rfl⟩ rfl rfl rfl rfl rfl (by kernel_rfl) Tryz.func5 ZjW
  (of_decide_eq_true (by kernel_rfl)) (by unfold Func.isWrapper;first | (rw [if_pos (by decide +kernel)];kernel_rfl) | (rw [if_neg (by decide +kernel)];exact ⟨rfl,rfl⟩))
  (fun os started H enc _=>Zjd os started H enc)
#print axioms holds5
end Go.Proofs.YtlgmnddelljbmaaGreat
