/- An owner whose requests come one after the other, and are answered, gives the same errors and the same forest as the sequential machine. No condition beyond those of the given statement. -/
import Derived.Test.YtnkmbgbpkgmbnaaGreatM7
namespace Go.Proofs.YtnkmbgbpkgmbnaaGreat
open Go Go.AM
set_option maxRecDepth 100000
theorem Zq4 (os:Os) (started:os.Started) (H:Type) (enc:TypeId×Value→H) :
  ReturnsInHanded {} Tryz.checked os 3 .any (Rows.ownerAgreesSpec.pre6 enc Tryz.prog Tryz.f3 Rows.ownerAgreesRow.domain false) (Rows.ownerAgreesSpec.post enc Tryz.prog Tryz.f3 Rows.ownerAgreesRow.apart Rows.ownerAgreesRow.fresh Rows.ownerAgreesRow.handsOn Rows.ownerAgreesRow.again):=by
 refine returnsInHanded_of_change (C:=Tryz.checked) Zll started (by kernel_rfl) Tryz.func3
  (ChangeSpec.witness6 (enc:=enc) (C:=Tryz.checked) false ⟨#[],#[.slice none 0 0],[]⟩ 12 (by kernel_rfl) (by kernel_rfl) (by kernel_rfl) (by kernel_rfl)) ?_
 intro W base args ds gs before hval hW _ _
 refine Zfe (d:=12) ZBl (fun t ht=>ZzB t ?_) (by kernel_rfl:Tryz.f3.resultTypes = #[4]) Tryz.underlying4 rfl (fun ds hd=>?_) (fun xs hx hty=>?_) W base args ds gs before hval hW
 ·have:(Tryz.f3.params.toList.all fun t=>ZrX.contains t)=true:=by kernel_rfl
  rw [List.all_eq_true] at this
  exact this t ht
 ·rw [Tryz.params3] at hd
  match ds,hd with
  | [d0], _ => rfl
 ·rw [Tryz.params3] at hx hty
  match xs,hx with
  | [x0], _ =>
   obtain ⟨sts0,rfl,hn0⟩:=Zls (hty 0 _ _ rfl rfl)
   have e1:KO F3.S.args [.l (sts0.map spc)] 0 = [.slice false 10 (sts0.map spc)]:=by kernel_rfl
   have e2:(g3 ((sts0.map spc))=some true)=(F3.S.g [.l (sts0.map spc)]=some (cast (by kernel_rfl:Bool=ShsT (ZaW F3.S.res F3.S.args)) true)):=by kernel_rfl
   have e3:Kx F3.S.res (Zc4 (ZaW F3.S.res F3.S.args) (cast (by kernel_rfl:Bool=ShsT (ZaW F3.S.res F3.S.args)) true)) 0 = .val (.bool true):=by kernel_rfl
   have h2:=Eq.mp e2 (s3x sts0 hn0)
   have h:=ok3 _ _ h2
   rw [e1,e3] at h
   exact ⟨_,h⟩
theorem Zr9:joinedFacts Tryz.prog 3 Tryz.f3 Rows.ownerAgreesSpec Rows.ownerAgreesRow=true:=by
 unfold joinedFacts
 rw [ZvD,ZzC,Zuh]
 change _=_
 kernel_rfl
theorem holds3:Rows.OwnerAgreesSaid:=
 OpenClaim.holds_of_wide 3 Tryz.f3 rfl rfl rfl rfl rfl rfl rfl ⟨rfl,rfl,rfl,rfl,rfl⟩ rfl rfl rfl rfl rfl (by kernel_rfl) Tryz.func3 Zr9
  (of_decide_eq_true (by kernel_rfl)) (by unfold Func.isWrapper;first | (rw [if_pos (by decide +kernel)];kernel_rfl) | (rw [if_neg (by decide +kernel)];exact ⟨rfl,rfl⟩))
  (fun os started H enc _=>Zq4 os started H enc)
#print axioms holds3
end Go.Proofs.YtnkmbgbpkgmbnaaGreat
