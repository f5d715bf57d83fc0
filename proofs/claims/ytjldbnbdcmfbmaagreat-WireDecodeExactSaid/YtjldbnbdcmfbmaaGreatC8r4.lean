/- Decode equals the reference's. No condition beyond those of the given statement. -/
import Derived.Test.YtjldbnbdcmfbmaaGreatW8y
namespace Go.Proofs.YtjldbnbdcmfbmaaGreat
open Go Go.AM
set_option maxRecDepth 100000
theorem Zvz (os:Os) (started:os.Started) (H:Type) (enc:TypeId×Value→H) :
  ReturnsInHanded {} Tryz.checked os 4 .any (Rows.wireDecodeExactSpec.pre6 enc Tryz.prog Tryz.f4 Rows.wireDecodeExactRow.domain false) (Rows.wireDecodeExactSpec.post enc Tryz.prog Tryz.f4 Rows.wireDecodeExactRow.apart Rows.wireDecodeExactRow.fresh Rows.wireDecodeExactRow.handsOn Rows.wireDecodeExactRow.again):=by
 refine returnsInHanded_of_change_sized (C:=Tryz.checked) Zp8 started (by kernel_rfl) Tryz.func4
  (ChangeSpec.witness6 (enc:=enc) (C:=Tryz.checked) false ⟨#[],#[.slice none 0 0,.int .i64 0,.slice none 0 0,.slice none 0 0,.int .i64 0,.int .u8 0],[]⟩ 12 (by kernel_rfl) (by kernel_rfl) (by kernel_rfl) (by kernel_rfl)) ?_
 intro W base args ds gs before hval hW _ hsz _
 refine ZeU (d:=12) ZJO (fun t ht=>ZGJ t ?_) (by kernel_rfl:Tryz.f4.resultTypes = #[4]) Tryz.underlying4 rfl (fun ds hd=>?_) (fun xs hx hty=>?_) W base args ds gs before hval hW hsz
 ·have:(Tryz.f4.params.toList.all fun t=>Zvf.contains t)=true:=by kernel_rfl
  rw [List.all_eq_true] at this
  exact this t ht
 ·rw [Tryz.params4] at hd
  match ds,hd with
  | [d0, d1, d2, d3, d4, d5], _ => rfl
 ·rw [Tryz.params4] at hx hty
  match xs,hx with
  | [x0, x1, x2, x3, x4, x5], _ =>
   obtain ⟨bs0,rfl,hhl0,hhw0⟩:=ZnX (hty 0 _ _ rfl rfl)
   obtain ⟨z1,rfl⟩:=ZlI (hty 1 _ _ rfl rfl)
   obtain ⟨zs2,rfl,hr2,hn2⟩:=ZqV (hty 2 _ _ rfl rfl)
   obtain ⟨sts3,rfl,hn3⟩:=ZnB (hty 3 _ _ rfl rfl)
   obtain ⟨z4,rfl⟩:=ZlI (hty 4 _ _ rfl rfl)
   obtain ⟨z5,rfl,ha5,hb5⟩:=Zu1 (hty 5 _ _ rfl rfl)
   have e1:VV F4.S.args [.l (Za bs0),.i z1,.l (Zd zs2),.l (sts3.map Zck),.i z4,.i z5] 0 = [.slice false 1 (Za bs0),I z1,.slice false 1 (Zd zs2),.slice false 10 (sts3.map Zck),I z4,.val (.int .u8 z5)]:=by kernel_rfl
   have e2:(g4 ((Za bs0)) z1 ((Zd zs2)) ((sts3.map Zck)) z4 z5=some true)=(F4.S.g [.l (Za bs0),.i z1,.l (Zd zs2),.l (sts3.map Zck),.i z4,.i z5]=some (cast (by kernel_rfl:Bool=ShsT (Zcj F4.S.res F4.S.args)) true)):=by kernel_rfl
   have e3:Wy F4.S.res (ZeQ (Zcj F4.S.res F4.S.args) (cast (by kernel_rfl:Bool=ShsT (Zcj F4.S.res F4.S.args)) true)) 0 = .val (.bool true):=by kernel_rfl
   have h2:=Eq.mp e2 (s4 bs0 hhw0 z1 zs2 hr2 hn2 sts3 hn3 z4 z5 ha5 hb5)
   have h:=ok4 _ _ h2
   rw [e1,e3] at h
   exact ⟨_,h⟩
theorem Zxn:joinedFacts Tryz.prog 4 Tryz.f4 Rows.wireDecodeExactSpec Rows.wireDecodeExactRow=true:=by
 unfold joinedFacts
 rw [ZyH,ZFg,ZB4]
 change _=_
 kernel_rfl
theorem holds4:Rows.WireDecodeExactSaid:=
 OpenClaim.holds_of_wide 4 Tryz.f4 rfl rfl rfl rfl rfl rfl rfl ⟨rfl,rfl,rfl,rfl,rfl⟩ rfl rfl rfl rfl rfl (by kernel_rfl) Tryz.func4 Zxn
  (of_decide_eq_true (by kernel_rfl)) (by unfold Func.isWrapper;first | (rw [if_pos (by decide +kernel)];kernel_rfl) | (rw [if_neg (by decide +kernel)];exact ⟨rfl,rfl⟩))
  (fun os started H enc _=>Zvz os started H enc)
#print axioms holds4
end Go.Proofs.YtjldbnbdcmfbmaaGreat
