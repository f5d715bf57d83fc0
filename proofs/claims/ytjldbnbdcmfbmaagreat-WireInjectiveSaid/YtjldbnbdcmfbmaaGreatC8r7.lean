/- Two valid messages with the same encoding are equal. No condition beyond those of the given statement. -/
import Derived.Test.YtjldbnbdcmfbmaaGreatM6
namespace Go.Proofs.YtjldbnbdcmfbmaaGreat
open Go Go.AM
set_option maxRecDepth 100000
theorem ZrB (os:Os) (started:os.Started) (H:Type) (enc:TypeId×Value→H) :
  ReturnsInHanded {} Tryz.checked os 7 .any (Rows.wireInjectiveSpec.pre6 enc Tryz.prog Tryz.f7 Rows.wireInjectiveRow.domain false) (Rows.wireInjectiveSpec.post enc Tryz.prog Tryz.f7 Rows.wireInjectiveRow.apart Rows.wireInjectiveRow.fresh Rows.wireInjectiveRow.handsOn Rows.wireInjectiveRow.again):=by
 refine returnsInHanded_of_change_sized (C:=Tryz.checked) ZlJ started (by kernel_rfl) Tryz.func7
  (ChangeSpec.witness6 (enc:=enc) (C:=Tryz.checked) false ⟨#[],#[.int .i64 0,.int .i64 0,.slice none 0 0,.slice none 0 0,.slice none 0 0],[]⟩ 12 (by kernel_rfl) (by kernel_rfl) (by kernel_rfl) (by kernel_rfl)) ?_
 intro W base args ds gs before hval hW _ hsz _
 refine Zdu (d:=12) ZB9 (fun t ht=>ZAf t ?_) (by kernel_rfl:Tryz.f7.resultTypes = #[4]) Tryz.underlying4 rfl (fun ds hd=>?_) (fun xs hx hty=>?_) W base args ds gs before hval hW hsz
 ·have:(Tryz.f7.params.toList.all fun t=>Zrx.contains t)=true:=by kernel_rfl
  rw [List.all_eq_true] at this
  exact this t ht
 ·rw [Tryz.params7] at hd
  match ds,hd with
  | [d0, d1, d2, d3, d4], _ => rfl
 ·rw [Tryz.params7] at hx hty
  match xs,hx with
  | [x0, x1, x2, x3, x4], _ =>
   obtain ⟨z0,rfl⟩:=Zju (hty 0 _ _ rfl rfl)
   obtain ⟨z1,rfl⟩:=Zju (hty 1 _ _ rfl rfl)
   obtain ⟨zs2,rfl,hr2,hn2⟩:=ZgR (hty 2 _ _ rfl rfl)
   obtain ⟨zs3,rfl,hr3,hn3⟩:=ZgR (hty 3 _ _ rfl rfl)
   obtain ⟨sts4,rfl,hn4⟩:=ZkB (hty 4 _ _ rfl rfl)
   have e1:KU F7.S.args [.i z0,.i z1,.l (Za zs2),.l (Za zs3),.l (sts4.map Za5)] 0 = [I z0,I z1,.slice false 1 (Za zs2),.slice false 1 (Za zs3),.slice false 10 (sts4.map Za5)]:=by kernel_rfl
   have e2:(g7 z0 z1 ((Za zs2)) ((Za zs3)) ((sts4.map Za5))=some true)=(F7.S.g [.i z0,.i z1,.l (Za zs2),.l (Za zs3),.l (sts4.map Za5)]=some (cast (by kernel_rfl:Bool=ShsT (Zbg F7.S.res F7.S.args)) true)):=by kernel_rfl
   have e3:Vt F7.S.res (Zdp (Zbg F7.S.res F7.S.args) (cast (by kernel_rfl:Bool=ShsT (Zbg F7.S.res F7.S.args)) true)) 0 = .val (.bool true):=by kernel_rfl
   have h2:=Eq.mp e2 (s7 z0 z1 zs2 hr2 hn2 zs3 hr3 hn3 sts4 hn4)
   have h:=ok7 _ _ h2
   rw [e1,e3] at h
   exact ⟨_,h⟩
theorem Zqi:joinedFacts Tryz.prog 7 Tryz.f7 Rows.wireInjectiveSpec Rows.wireInjectiveRow=true:=by
 unfold joinedFacts
 rw [ZtV,Zy8,ZtD]
 change _=_
 kernel_rfl
theorem holds7:Rows.WireInjectiveSaid:=
 OpenClaim.holds_of_wide 7 Tryz.f7 rfl rfl rfl rfl rfl rfl rfl ⟨rfl,rfl,rfl,rfl,rfl⟩ rfl rfl rfl rfl rfl (by kernel_rfl) Tryz.func7 Zqi
  (of_decide_eq_true (by kernel_rfl)) (by unfold Func.isWrapper;first | (rw [if_pos (by decide +kernel)];kernel_rfl) | (rw [if_neg (by decide +kernel)];exact ⟨rfl,rfl⟩))
  (fun os started H enc _=>ZrB os started H enc)
#print axioms holds7
end Go.Proofs.YtjldbnbdcmfbmaaGreat
