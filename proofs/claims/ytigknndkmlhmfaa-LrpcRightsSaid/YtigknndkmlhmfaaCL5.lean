/- LrpcRights: only an endpoint's server receives from it and replies to its calls. No condition beyond those of the given statement. -/
import Derived.Test.YtigknndkmlhmfaaM7
namespace Go.Proofs.Ytigknndkmlhmfaa
open Go Go.AM
set_option maxRecDepth 100000
theorem Zlq (os:Os) (started:os.Started) (H:Type) (enc:TypeId×Value→H) :
  ReturnsInHanded {} Try.checked os 5 .any (Rows.lrpcRightsSpec.pre6 enc Try.prog Try.f5 Rows.lrpcRightsRow.domain false) (Rows.lrpcRightsSpec.post enc Try.prog Try.f5 Rows.lrpcRightsRow.apart Rows.lrpcRightsRow.fresh Rows.lrpcRightsRow.handsOn Rows.lrpcRightsRow.again):=by
 refine returnsInHanded_of_change (C:=Try.checked) Zii started (by kernel_rfl) Try.func5
  (ChangeSpec.witness6 (enc:=enc) (C:=Try.checked) false ⟨#[],#[.int .i64 0,.int .i64 0,.int .u64 0],[]⟩ 8 (by kernel_rfl) (by kernel_rfl) (by kernel_rfl) (by kernel_rfl)) ?_
 intro W base args ds gs before hval hW _ _
 refine Zdm (d:=8) ZoM (fun t ht=>ZnS t ?_) (by kernel_rfl:Try.f5.resultTypes = #[4]) Try.underlying4 rfl (fun ds hd=>?_) (fun xs hx hty=>?_) W base args ds gs before hval hW
 ·have:(Try.f5.params.toList.all fun t=>Zlk.contains t)=true:=by kernel_rfl
  rw [List.all_eq_true] at this
  exact this t ht
 ·rw [Try.params5] at hd
  match ds,hd with
  | [d0, d1, d2], _ => rfl
 ·rw [Try.params5] at hx hty
  match xs,hx with
  | [x0, x1, x2], _ =>
   obtain ⟨z0,rfl⟩:=arg_int (hty 0 _ _ rfl rfl)
   obtain ⟨z1,rfl⟩:=arg_int (hty 1 _ _ rfl rfl)
   obtain ⟨zu2,rfl⟩:=Zl3 (hty 2 _ _ rfl rfl)
   exact ⟨_,ok5 [.i z0,.i z1,.i zu2] true (s5 z0 z1 zu2)⟩
theorem Zll:joinedFacts Try.prog 5 Try.f5 Rows.lrpcRightsSpec Rows.lrpcRightsRow=true:=by
 unfold joinedFacts
 rw [ZmZ,Zoc,Zno]
 change _=_
 kernel_rfl
theorem holds5:Rows.LrpcRightsSaid:=
 OpenClaim.holds_of_wide 5 Try.f5 rfl rfl rfl rfl rfl rfl rfl ⟨rfl,rfl,rfl,rfl,rfl⟩ rfl rfl rfl rfl rfl (by kernel_rfl) Try.func5 Zll
  (of_decide_eq_true (by kernel_rfl)) (by unfold Func.isWrapper;first | (rw [if_pos (by decide +kernel)];kernel_rfl) | (rw [if_neg (by decide +kernel)];exact ⟨rfl,rfl⟩))
  (fun os started H enc _=>Zlq os started H enc)
#print axioms holds5
end Go.Proofs.Ytigknndkmlhmfaa
