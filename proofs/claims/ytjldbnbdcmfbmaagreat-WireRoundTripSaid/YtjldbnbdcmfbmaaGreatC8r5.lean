/- What was encoded is decoded as it was. No condition beyond those of the given statement. -/
import Derived.Test.YtjldbnbdcmfbmaaGreatM6
import Derived.Test.YtjldbnbdcmfbmaaGreatM7
namespace Go.Proofs.YtjldbnbdcmfbmaaGreat
open Go Go.AM
set_option maxRecDepth 100000
theorem ZtF (os:Os) (started:os.Started) (H:Type) (enc:TypeId×Value→H) :
  ReturnsInHanded {} Tryz.checked os 5 .any (Rows.wireRoundTripSpec.pre6 enc Tryz.prog Tryz.f5 Rows.wireRoundTripRow.domain false) (Rows.wireRoundTripSpec.post enc Tryz.prog Tryz.f5 Rows.wireRoundTripRow.apart Rows.wireRoundTripRow.fresh Rows.wireRoundTripRow.handsOn Rows.wireRoundTripRow.again):=by
 refine returnsInHanded_of_change_sized (C:=Tryz.checked) Zhs started (by kernel_rfl) Tryz.func5
  (ChangeSpec.witness6 (enc:=enc) (C:=Tryz.checked) false ⟨#[],#[.int .i64 0,.slice none 0 0,.slice none 0 0],[]⟩ 12 (by kernel_rfl) (by kernel_rfl) (by kernel_rfl) (by kernel_rfl)) ?_
 intro W base args ds gs before hval hW _ hsz _
 refine WH (d:=12) ZCM (fun t ht=>Zxp t ?_) (by kernel_rfl:Tryz.f5.resultTypes = #[4]) Tryz.underlying4 rfl (fun ds hd=>?_) (fun xs hx hty=>?_) W base args ds gs before hval hW hsz
 ·have:(Tryz.f5.params.toList.all fun t=>Zpv.contains t)=true:=by kernel_rfl
  rw [List.all_eq_true] at this
  exact this t ht
 ·rw [Tryz.params5] at hd
  match ds,hd with
  | [d0, d1, d2], _ => rfl
 ·rw [Tryz.params5] at hx hty
  match xs,hx with
  | [x0, x1, x2], _ =>
   obtain ⟨z0,rfl⟩:=Zgm (hty 0 _ _ rfl rfl)
   obtain ⟨zs1,rfl,hr1,hn1⟩:=ZhD (hty 1 _ _ rfl rfl)
   obtain ⟨sts2,rfl,hn2⟩:=Zew (hty 2 _ _ rfl rfl)
   have e1:KX F5.S.args [.i z0,.l (Za zs1),.l (sts2.map Vn)] 0 = [I z0,.slice false 1 (Za zs1),.slice false 10 (sts2.map Vn)]:=by kernel_rfl
   have e2:(g5 z0 ((Za zs1)) ((sts2.map Vn))=some true)=(F5.S.g [.i z0,.l (Za zs1),.l (sts2.map Vn)]=some (cast (by kernel_rfl:Bool=ShsT (Wv F5.S.res F5.S.args)) true)):=by kernel_rfl
   have e3:Vf F5.S.res (ZcG (Wv F5.S.res F5.S.args) (cast (by kernel_rfl:Bool=ShsT (Wv F5.S.res F5.S.args)) true)) 0 = .val (.bool true):=by kernel_rfl
   have h2:=Eq.mp e2 (s5 z0 zs1 hr1 hn1 sts2 hn2)
   have h:=ok5 _ _ h2
   rw [e1,e3] at h
   exact ⟨_,h⟩
theorem ZsX:joinedFacts Tryz.prog 5 Tryz.f5 Rows.wireRoundTripSpec Rows.wireRoundTripRow=true:=by
 unfold joinedFacts
 rw [Zq3,ZvO,Zrm]
 change _=_
 kernel_rfl
theorem holds5:Rows.WireRoundTripSaid:=
 OpenClaim.holds_of_wide 5 Tryz.f5 rfl rfl rfl rfl rfl rfl rfl ⟨rfl,rfl,rfl,rfl,rfl⟩ rfl rfl rfl rfl rfl (by kernel_rfl) Tryz.func5 ZsX
  (of_decide_eq_true (by kernel_rfl)) (by unfold Func.isWrapper;first | (rw [if_pos (by decide +kernel)];kernel_rfl) | (rw [if_neg (by decide +kernel)];exact ⟨rfl,rfl⟩))
  (fun os started H enc _=>ZtF os started H enc)
#print axioms holds5
end Go.Proofs.YtjldbnbdcmfbmaaGreat
