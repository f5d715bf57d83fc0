/- LrpcOrder: messages are received in the order in which they were sent. No condition beyond those of the given statement. -/
import Derived.Test.YtigknndkmlhmfaaM7
namespace Go.Proofs.Ytigknndkmlhmfaa
open Go Go.AM
set_option maxRecDepth 100000
theorem Zl0 (os:Os) (started:os.Started) (H:Type) (enc:TypeId×Value→H) :
  ReturnsInHanded {} Try.checked os 3 .any (Rows.lrpcOrderSpec.pre6 enc Try.prog Try.f3 Rows.lrpcOrderRow.domain false) (Rows.lrpcOrderSpec.post enc Try.prog Try.f3 Rows.lrpcOrderRow.apart Rows.lrpcOrderRow.fresh Rows.lrpcOrderRow.handsOn Rows.lrpcOrderRow.again):=by
 refine returnsInHanded_of_change (C:=Try.checked) ZhY started (by kernel_rfl) Try.func3
  (ChangeSpec.witness6 (enc:=enc) (C:=Try.checked) false ⟨#[],#[.slice none 0 0,.slice none 0 0,.slice none 0 0],[]⟩ 8 (by kernel_rfl) (by kernel_rfl) (by kernel_rfl) (by kernel_rfl)) ?_
 intro W base args ds gs before hval hW _ _
 refine Zdk (d:=8) Zoq (fun t ht=>ZnV t ?_) (by kernel_rfl:Try.f3.resultTypes = #[4]) Try.underlying4 rfl (fun ds hd=>?_) (fun xs hx hty=>?_) W base args ds gs before hval hW
 ·have:(Try.f3.params.toList.all fun t=>Zl2.contains t)=true:=by kernel_rfl
  rw [List.all_eq_true] at this
  exact this t ht
 ·rw [Try.params3] at hd
  match ds,hd with
  | [d0, d1, d2], _ => rfl
 ·rw [Try.params3] at hx hty
  match xs,hx with
  | [x0, x1, x2], _ =>
   obtain ⟨wl0,rfl,hhl0⟩:=ZiH (hty 0 _ _ rfl rfl)
   obtain ⟨bl1,rfl,hhl1⟩:=ZiC (hty 1 _ _ rfl rfl)
   obtain ⟨zs2,rfl,hhl2⟩:=ZjW (hty 2 _ _ rfl rfl)
   exact ⟨_,ok3 [.l (ZE wl0),.l (Jf bl1),.l (Jr zs2)] true (s3 wl0 bl1 zs2 hhl2)⟩
theorem Zle:joinedFacts Try.prog 3 Try.f3 Rows.lrpcOrderSpec Rows.lrpcOrderRow=true:=by
 unfold joinedFacts
 rw [Zmx,ZnN,Zm7]
 change _=_
 kernel_rfl
theorem holds3:Rows.LrpcOrderSaid:=
 OpenClaim.holds_of_wide 3 Try.f3 rfl rfl rfl rfl rfl rfl rfl ⟨rfl,rfl,rfl,rfl,rfl⟩ rfl rfl rfl rfl rfl (by kernel_rfl) Try.func3 Zle
  (of_decide_eq_true (by kernel_rfl)) (by unfold Func.isWrapper;first | (rw [if_pos (by decide +kernel)];kernel_rfl) | (rw [if_neg (by decide +kernel)];exact ⟨rfl,rfl⟩))
  (fun os started H enc _=>Zl0 os started H enc)
#print axioms holds3
end Go.Proofs.Ytigknndkmlhmfaa
