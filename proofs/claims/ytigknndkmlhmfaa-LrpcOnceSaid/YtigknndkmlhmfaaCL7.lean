/- LrpcOnce: under every script each call has at most one outcome, which goes to its caller, and the calls of a dispatcher that has not departed are those that wait and those that have had their outcome. No condition beyond those of the given statement. -/
import Derived.Test.YtigknndkmlhmfaaM8
namespace Go.Proofs.Ytigknndkmlhmfaa
open Go Go.AM
set_option maxRecDepth 100000
theorem ZoC (os:Os) (started:os.Started) (H:Type) (enc:TypeId×Value→H) :
  ReturnsInHanded {} Try.checked os 7 .any (Rows.lrpcOnceSpec.pre6 enc Try.prog Try.f7 Rows.lrpcOnceRow.domain false) (Rows.lrpcOnceSpec.post enc Try.prog Try.f7 Rows.lrpcOnceRow.apart Rows.lrpcOnceRow.fresh Rows.lrpcOnceRow.handsOn Rows.lrpcOnceRow.again):=by
 refine returnsInHanded_of_change (C:=Try.checked) Zjc started (by kernel_rfl) Try.func7
  (ChangeSpec.witness6 (enc:=enc) (C:=Try.checked) false ⟨#[],#[.slice none 0 0],[]⟩ 8 (by kernel_rfl) (by kernel_rfl) (by kernel_rfl) (by kernel_rfl)) ?_
 intro W base args ds gs before hval hW _ _
 refine Zer (d:=8) Zry (fun t ht=>ZqZ t ?_) (by kernel_rfl:Try.f7.resultTypes = #[4]) Try.underlying4 rfl (fun ds hd=>?_) (fun xs hx hty=>?_) W base args ds gs before hval hW
 ·have:(Try.f7.params.toList.all fun t=>ZnP.contains t)=true:=by kernel_rfl
  rw [List.all_eq_true] at this
  exact this t ht
 ·rw [Try.params7] at hd
  match ds,hd with
  | [d0], _ => rfl
 ·rw [Try.params7] at hx hty
  match xs,hx with
  | [x0], _ =>
   obtain ⟨ss0,rfl,hhl0⟩:=Zly (hty 0 _ _ rfl rfl)
   exact ⟨_,ok7 [.l (ss0.map ZlC)] true (s7 ss0)⟩
theorem Zo0:joinedFacts Try.prog 7 Try.f7 Rows.lrpcOnceSpec Rows.lrpcOnceRow=true:=by
 unfold joinedFacts
 rw [ZpT,Zq5,Zql]
 change _=_
 kernel_rfl
theorem holds7:Rows.LrpcOnceSaid:=
 OpenClaim.holds_of_wide 7 Try.f7 rfl rfl rfl rfl rfl rfl rfl ⟨rfl,rfl,rfl,rfl,rfl⟩ rfl rfl rfl rfl rfl (by kernel_rfl) Try.func7 Zo0
  (of_decide_eq_true (by kernel_rfl)) (by unfold Func.isWrapper;first | (rw [if_pos (by decide +kernel)];kernel_rfl) | (rw [if_neg (by decide +kernel)];exact ⟨rfl,rfl⟩))
  (fun os started H enc _=>ZoC os started H enc)
#print axioms holds7
end Go.Proofs.Ytigknndkmlhmfaa
