/- LrpcFull: a queue takes MaxQueued messages and no more. No condition beyond those of the given statement. -/
import Derived.Test.YtigknndkmlhmfaaM7
namespace Go.Proofs.Ytigknndkmlhmfaa
open Go Go.AM
set_option maxRecDepth 100000
theorem Zlr (os:Os) (started:os.Started) (H:Type) (enc:TypeId×Value→H) :
  ReturnsInHanded {} Try.checked os 4 .any (Rows.lrpcFullSpec.pre6 enc Try.prog Try.f4 Rows.lrpcFullRow.domain false) (Rows.lrpcFullSpec.post enc Try.prog Try.f4 Rows.lrpcFullRow.apart Rows.lrpcFullRow.fresh Rows.lrpcFullRow.handsOn Rows.lrpcFullRow.again):=by
 refine returnsInHanded_of_change (C:=Try.checked) ZiZ started (by kernel_rfl) Try.func4
  (ChangeSpec.witness6 (enc:=enc) (C:=Try.checked) false ⟨#[],#[.slice none 0 0],[]⟩ 8 (by kernel_rfl) (by kernel_rfl) (by kernel_rfl) (by kernel_rfl)) ?_
 intro W base args ds gs before hval hW _ _
 refine ZcW (d:=8) Zoh (fun t ht=>ZnF t ?_) (by kernel_rfl:Try.f4.resultTypes = #[4]) Try.underlying4 rfl (fun ds hd=>?_) (fun xs hx hty=>?_) W base args ds gs before hval hW
 ·have:(Try.f4.params.toList.all fun t=>ZlK.contains t)=true:=by kernel_rfl
  rw [List.all_eq_true] at this
  exact this t ht
 ·rw [Try.params4] at hd
  match ds,hd with
  | [d0], _ => rfl
 ·rw [Try.params4] at hx hty
  match xs,hx with
  | [x0], _ =>
   obtain ⟨bl0,rfl,hhl0⟩:=Zh0 (hty 0 _ _ rfl rfl)
   exact ⟨_,ok4 [.l (Yo bl0)] true (s4 bl0)⟩
theorem Zlx:joinedFacts Try.prog 4 Try.f4 Rows.lrpcFullSpec Rows.lrpcFullRow=true:=by
 unfold joinedFacts
 rw [Zmk,ZnP,Znd]
 change _=_
 kernel_rfl
theorem holds4:Rows.LrpcFullSaid:=
 OpenClaim.holds_of_wide 4 Try.f4 rfl rfl rfl rfl rfl rfl rfl ⟨rfl,rfl,rfl,rfl,rfl⟩ rfl rfl rfl rfl rfl (by kernel_rfl) Try.func4 Zlx
  (of_decide_eq_true (by kernel_rfl)) (by unfold Func.isWrapper;first | (rw [if_pos (by decide +kernel)];kernel_rfl) | (rw [if_neg (by decide +kernel)];exact ⟨rfl,rfl⟩))
  (fun os started H enc _=>Zlr os started H enc)
#print axioms holds4
end Go.Proofs.Ytigknndkmlhmfaa
