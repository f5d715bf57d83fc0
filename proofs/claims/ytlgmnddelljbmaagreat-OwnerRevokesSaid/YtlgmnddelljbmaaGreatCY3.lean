/- A revocation locks, marks and sweeps each participant once, in this order; it takes effect exactly once, and the entries below the source are dropped exactly then. No condition beyond those of the given statement. -/
import Derived.Test.YtlgmnddelljbmaaGreatM8
namespace Go.Proofs.YtlgmnddelljbmaaGreat
open Go Go.AM
set_option maxRecDepth 100000
theorem Zoj (os:Os) (started:os.Started) (H:Type) (enc:TypeId×Value→H) :
  ReturnsInHanded {} Tryz.checked os 3 .any (Rows.ownerRevokesSpec.pre6 enc Tryz.prog Tryz.f3 Rows.ownerRevokesRow.domain false) (Rows.ownerRevokesSpec.post enc Tryz.prog Tryz.f3 Rows.ownerRevokesRow.apart Rows.ownerRevokesRow.fresh Rows.ownerRevokesRow.handsOn Rows.ownerRevokesRow.again):=by
 refine returnsInHanded_of_change (C:=Tryz.checked) ZiW started (by kernel_rfl) Tryz.func3
  (ChangeSpec.witness6 (enc:=enc) (C:=Tryz.checked) false ⟨#[],#[.slice none 0 0,.int .i64 0],[]⟩ 12 (by kernel_rfl) (by kernel_rfl) (by kernel_rfl) (by kernel_rfl)) ?_
 intro W base args ds gs before hval hW _ _
 refine Zdp (d:=12) Zvo (fun t ht=>ZsC t ?_) (by kernel_rfl:Tryz.f3.resultTypes = #[4]) Tryz.underlying4 rfl (fun ds hd=>?_) (fun xs hx hty=>?_) W base args ds gs before hval hW
 ·have:(Tryz.f3.params.toList.all fun t=>ZmR.contains t)=true:=by kernel_rfl
  rw [List.all_eq_true] at this
  exact this t ht
 ·rw [Tryz.params3] at hd
  match ds,hd with
  | [d0, d1], _ => rfl
 ·rw [Tryz.params3] at hx hty
  match xs,hx with
  | [x0, x1], _ =>
   obtain ⟨sts0,rfl,hn0⟩:=Zjb (hty 0 _ _ rfl rfl)
   obtain ⟨z1,rfl⟩:=arg_int (hty 1 _ _ rfl rfl)
   have e1:Kn F3.S.args [.l (sts0.map WK),.i z1] 0 = [.slice false 10 (sts0.map WK),I z1]:=by kernel_rfl
   have e2:(g3 ((sts0.map WK)) z1=some true)=(F3.S.g [.l (sts0.map WK),.i z1]=some (cast (by kernel_rfl:Bool=ShsT (WY F3.S.res F3.S.args)) true)):=by kernel_rfl
   have e3:Y3 F3.S.res (ZbW (WY F3.S.res F3.S.args) (cast (by kernel_rfl:Bool=ShsT (WY F3.S.res F3.S.args)) true)) 0 = .val (.bool true):=by kernel_rfl
   have h2:=Eq.mp e2 (s3 sts0 hn0 z1)
   have h:=ok3 _ _ h2
   rw [e1,e3] at h
   exact ⟨_,h⟩
theorem Zn0:joinedFacts Tryz.prog 3 Tryz.f3 Rows.ownerRevokesSpec Rows.ownerRevokesRow=true:=by
 unfold joinedFacts
 rw [ZpG,ZtA,ZoP]
 change _=_
 kernel_rfl
theorem holds3:Rows.OwnerRevokesSaid:=
 OpenClaim.holds_of_wide 3 Tryz.f3 rfl rfl rfl rfl rfl rfl rfl ⟨rfl,rfl,rfl,rfl,rfl⟩ rfl rfl rfl rfl rfl (by kernel_rfl) Tryz.func3 Zn0
  (of_decide_eq_true (by kernel_rfl)) (by unfold Func.isWrapper;first | (rw [if_pos (by decide +kernel)];kernel_rfl) | (rw [if_neg (by decide +kernel)];exact ⟨rfl,rfl⟩))
  (fun os started H enc _=>Zoj os started H enc)
#print axioms holds3
end Go.Proofs.YtlgmnddelljbmaaGreat
