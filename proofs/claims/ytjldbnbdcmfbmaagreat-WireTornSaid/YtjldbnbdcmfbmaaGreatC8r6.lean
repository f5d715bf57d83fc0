/- A torn or lengthened message is refused. No condition beyond those of the given statement. -/
import Derived.Test.YtjldbnbdcmfbmaaGreatM6
import Derived.Test.YtjldbnbdcmfbmaaGreatM7
namespace Go.Proofs.YtjldbnbdcmfbmaaGreat
open Go Go.AM
set_option maxRecDepth 100000
theorem Zr3 (os:Os) (started:os.Started) (H:Type) (enc:TypeId×Value→H) :
  ReturnsInHanded {} Tryz.checked os 6 .any (Rows.wireTornSpec.pre6 enc Tryz.prog Tryz.f6 Rows.wireTornRow.domain false) (Rows.wireTornSpec.post enc Tryz.prog Tryz.f6 Rows.wireTornRow.apart Rows.wireTornRow.fresh Rows.wireTornRow.handsOn Rows.wireTornRow.again):=by
 refine returnsInHanded_of_change_sized (C:=Tryz.checked) Zhs started (by kernel_rfl) Tryz.func6
  (ChangeSpec.witness6 (enc:=enc) (C:=Tryz.checked) false ⟨#[],#[.int .i64 0,.slice none 0 0,.slice none 0 0,.int .i64 0,.int .u8 0],[]⟩ 12 (by kernel_rfl) (by kernel_rfl) (by kernel_rfl) (by kernel_rfl)) ?_
 intro W base args ds gs before hval hW _ hsz _
 refine WH (d:=12) ZCM (fun t ht=>Zxp t ?_) (by kernel_rfl:Tryz.f6.resultTypes = #[4]) Tryz.underlying4 rfl (fun ds hd=>?_) (fun xs hx hty=>?_) W base args ds gs before hval hW hsz
 ·have:(Tryz.f6.params.toList.all fun t=>Zpv.contains t)=true:=by kernel_rfl
  rw [List.all_eq_true] at this
  exact this t ht
 ·rw [Tryz.params6] at hd
  match ds,hd with
  | [d0, d1, d2, d3, d4], _ => rfl
 ·rw [Tryz.params6] at hx hty
  match xs,hx with
  | [x0, x1, x2, x3, x4], _ =>
   obtain ⟨z0,rfl⟩:=Zgm (hty 0 _ _ rfl rfl)
   obtain ⟨zs1,rfl,hr1,hn1⟩:=ZhD (hty 1 _ _ rfl rfl)
   obtain ⟨sts2,rfl,hn2⟩:=Zew (hty 2 _ _ rfl rfl)
   obtain ⟨z3,rfl⟩:=Zgm (hty 3 _ _ rfl rfl)
   obtain ⟨z4,rfl,ha4,hb4⟩:=ZrQ (hty 4 _ _ rfl rfl)
   have e1:KX F6.S.args [.i z0,.l (Za zs1),.l (sts2.map Vn),.i z3,.i z4] 0 = [I z0,.slice false 1 (Za zs1),.slice false 10 (sts2.map Vn),I z3,.val (.int .u8 z4)]:=by kernel_rfl
   have e2:(g6 z0 ((Za zs1)) ((sts2.map Vn)) z3 z4=some true)=(F6.S.g [.i z0,.l (Za zs1),.l (sts2.map Vn),.i z3,.i z4]=some (cast (by kernel_rfl:Bool=ShsT (Wv F6.S.res F6.S.args)) true)):=by kernel_rfl
   have e3:Vf F6.S.res (ZcG (Wv F6.S.res F6.S.args) (cast (by kernel_rfl:Bool=ShsT (Wv F6.S.res F6.S.args)) true)) 0 = .val (.bool true):=by kernel_rfl
   have h2:=Eq.mp e2 (s6 z0 zs1 hr1 hn1 sts2 hn2 z3 z4 ha4 hb4)
   have h:=ok6 _ _ h2
   rw [e1,e3] at h
   exact ⟨_,h⟩
theorem Zr6:joinedFacts Tryz.prog 6 Tryz.f6 Rows.wireTornSpec Rows.wireTornRow=true:=by
 unfold joinedFacts
 rw [Zq3,ZvO,Zrm]
 change _=_
 kernel_rfl
theorem holds6:Rows.WireTornSaid:=
 OpenClaim.holds_of_wide 6 Tryz.f6 rfl rfl rfl rfl rfl rfl rfl ⟨rfl,rfl,rfl,rfl,rfl⟩ rfl rfl rfl rfl rfl (by kernel_rfl) Tryz.func6 Zr6
  (of_decide_eq_true (by kernel_rfl)) (by unfold Func.isWrapper;first | (rw [if_pos (by decide +kernel)];kernel_rfl) | (rw [if_neg (by decide +kernel)];exact ⟨rfl,rfl⟩))
  (fun os started H enc _=>Zr3 os started H enc)
#print axioms holds6
end Go.Proofs.YtjldbnbdcmfbmaaGreat
