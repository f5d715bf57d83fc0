/- A Send which the target refuses leaves the forest as it was, and reports the target's error as settled. No condition beyond those of the given statement. -/
import Derived.Test.YtlgmnddelljbmaaGreatM5
namespace Go.Proofs.YtlgmnddelljbmaaGreat
open Go Go.AM
set_option maxRecDepth 100000
theorem ZkN (os:Os) (started:os.Started) (H:Type) (enc:TypeId×Value→H) :
  ReturnsInHanded {} Tryz.checked os 4 .any (Rows.ownerRefusedSpec.pre6 enc Tryz.prog Tryz.f4 Rows.ownerRefusedRow.domain false) (Rows.ownerRefusedSpec.post enc Tryz.prog Tryz.f4 Rows.ownerRefusedRow.apart Rows.ownerRefusedRow.fresh Rows.ownerRefusedRow.handsOn Rows.ownerRefusedRow.again):=by
 refine returnsInHanded_of_change (C:=Tryz.checked) Zhd started (by kernel_rfl) Tryz.func4
  (ChangeSpec.witness6 (enc:=enc) (C:=Tryz.checked) false ⟨#[],#[.slice none 0 0,.int .i64 0,.int .i64 0,.int .i64 0,.int .i64 0],[]⟩ 12 (by kernel_rfl) (by kernel_rfl) (by kernel_rfl) (by kernel_rfl)) ?_
 intro W base args ds gs before hval hW _ _
 refine Zcl (d:=12) Zsq (fun t ht=>ZqX t ?_) (by kernel_rfl:Tryz.f4.resultTypes = #[4]) Tryz.underlying4 rfl (fun ds hd=>?_) (fun xs hx hty=>?_) W base args ds gs before hval hW
 ·have:(Tryz.f4.params.toList.all fun t=>Zlz.contains t)=true:=by kernel_rfl
  rw [List.all_eq_true] at this
  exact this t ht
 ·rw [Tryz.params4] at hd
  match ds,hd with
  | [d0, d1, d2, d3, d4], _ => rfl
 ·rw [Tryz.params4] at hx hty
  match xs,hx with
  | [x0, x1, x2, x3, x4], _ =>
   obtain ⟨sts0,rfl,hn0⟩:=Zg7 (hty 0 _ _ rfl rfl)
   obtain ⟨z1,rfl⟩:=arg_int (hty 1 _ _ rfl rfl)
   obtain ⟨z2,rfl⟩:=arg_int (hty 2 _ _ rfl rfl)
   obtain ⟨z3,rfl⟩:=arg_int (hty 3 _ _ rfl rfl)
   obtain ⟨z4,rfl⟩:=arg_int (hty 4 _ _ rfl rfl)
   have e1:YR F4.S.args [.l (sts0.map V5),.i z1,.i z2,.i z3,.i z4] 0 = [.slice false 10 (sts0.map V5),I z1,I z2,I z3,I z4]:=by kernel_rfl
   have e2:(g4 ((sts0.map V5)) z1 z2 z3 z4=some true)=(F4.S.g [.l (sts0.map V5),.i z1,.i z2,.i z3,.i z4]=some (cast (by kernel_rfl:Bool=ShsT (Wf F4.S.res F4.S.args)) true)):=by kernel_rfl
   have e3:YF F4.S.res (ZaZ (Wf F4.S.res F4.S.args) (cast (by kernel_rfl:Bool=ShsT (Wf F4.S.res F4.S.args)) true)) 0 = .val (.bool true):=by kernel_rfl
   have h2:=Eq.mp e2 (s4 sts0 hn0 z1 z2 z3 z4)
   have h:=ok4 _ _ h2
   rw [e1,e3] at h
   exact ⟨_,h⟩
theorem ZlR:joinedFacts Tryz.prog 4 Tryz.f4 Rows.ownerRefusedSpec Rows.ownerRefusedRow=true:=by
 unfold joinedFacts
 rw [ZnQ,Zqa,Znu]
 change _=_
 kernel_rfl
theorem holds4:Rows.OwnerRefusedSaid:=
 OpenClaim.holds_of_wide 4 Tryz.f4 rfl rfl rfl rfl rfl rfl rfl ⟨rfl,rfl,rfl,rfl,rfl⟩ rfl rfl rfl rfl rfl (by kernel_rfl) Tryz.func4 ZlR
  (of_decide_eq_true (by kernel_rfl)) (by unfold Func.isWrapper;first | (rw [if_pos (by decide +kernel)];kernel_rfl) | (rw [if_neg (by decide +kernel)];exact ⟨rfl,rfl⟩))
  (fun os started H enc _=>ZkN os started H enc)
#print axioms holds4
end Go.Proofs.YtlgmnddelljbmaaGreat
