/- The reference and the request agree at every step. No condition beyond those of the given statement. -/
import Derived.Test.YtapbmpfhogkkaaaGreatM7
namespace Go.Proofs.YtapbmpfhogkkaaaGreat
open Go Go.AM
set_option maxRecDepth 100000
theorem ZkU (os:Os) (started:os.Started) (H:Type) (enc:TypeId×Value→H) :
  ReturnsInHanded {} Tryz.checked os 3 .any (Rows.requestAgreesSpec.pre6 enc Tryz.prog Tryz.f3 Rows.requestAgreesRow.domain false) (Rows.requestAgreesSpec.post enc Tryz.prog Tryz.f3 Rows.requestAgreesRow.apart Rows.requestAgreesRow.fresh Rows.requestAgreesRow.handsOn Rows.requestAgreesRow.again):=by
 refine returnsInHanded_of_change (C:=Tryz.checked) ZiE started (by kernel_rfl) Tryz.func3
  (ChangeSpec.witness6 (enc:=enc) (C:=Tryz.checked) false ⟨#[],#[.slice none 0 0,.slice none 0 0,.int .i64 0,.agg #[.int .i64 0,.int .i64 0,.int .i64 0,.int .i64 0,.int .i64 0,.int .i64 0,.int .i64 0,.int .i64 0,.int .i64 0]],[]⟩ 12 (by kernel_rfl) (by kernel_rfl) (by kernel_rfl) (by kernel_rfl)) ?_
 intro W base args ds gs before hval hW _ _
 refine Zb7 (d:=12) Zqz (fun t ht=>ZoT t ?_) (by kernel_rfl:Tryz.f3.resultTypes = #[4]) Tryz.underlying4 rfl (fun ds hd=>?_) (fun xs hx hty=>?_) W base args ds gs before hval hW
 ·have:(Tryz.f3.params.toList.all fun t=>ZlE.contains t)=true:=by kernel_rfl
  rw [List.all_eq_true] at this
  exact this t ht
 ·rw [Tryz.params3] at hd
  match ds,hd with
  | [d0, d1, d2, d3], _ => rfl
 ·rw [Tryz.params3] at hx hty
  match xs,hx with
  | [x0, x1, x2, x3], _ =>
   obtain ⟨zs0,rfl,hhl0⟩:=ZjG (hty 0 _ _ rfl rfl)
   obtain ⟨sts1,rfl,hn1⟩:=Zit (hty 1 _ _ rfl rfl)
   obtain ⟨z2,rfl⟩:=arg_int (hty 2 _ _ rfl rfl)
   obtain ⟨w3_0,w3_1,w3_2,w3_3,w3_4,w3_5,w3_6,w3_7,w3_8,rfl⟩:=Zkd (hty 3 _ _ rfl rfl)
   have e1:YX F3.S.args [.l (Zd zs0),.l (sts1.map spc),.i z2,.i w3_0,.i w3_1,.i w3_2,.i w3_3,.i w3_4,.i w3_5,.i w3_6,.i w3_7,.i w3_8] 0 = [.slice false 1 (Zd zs0),.slice false 10 (sts1.map spc),I z2,.agg [I w3_0,I w3_1,I w3_2,I w3_3,I w3_4,I w3_5,I w3_6,I w3_7,I w3_8]]:=by kernel_rfl
   have e2:(g3 ((Zd zs0)) ((sts1.map spc)) z2 w3_0 w3_1 w3_2 w3_3 w3_4 w3_5 w3_6 w3_7 w3_8=some true)=(F3.S.g [.l (Zd zs0),.l (sts1.map spc),.i z2,.i w3_0,.i w3_1,.i w3_2,.i w3_3,.i w3_4,.i w3_5,.i w3_6,.i w3_7,.i w3_8]=some (cast (by kernel_rfl:Bool=ShsT (Wi F3.S.res F3.S.args)) true)):=by kernel_rfl
   have e3:YN F3.S.res (Za6 (Wi F3.S.res F3.S.args) (cast (by kernel_rfl:Bool=ShsT (Wi F3.S.res F3.S.args)) true)) 0 = .val (.bool true):=by kernel_rfl
   have h2:=Eq.mp e2 (s3x zs0 sts1 hn1 z2 w3_0 w3_1 w3_2 w3_3 w3_4 w3_5 w3_6 w3_7 w3_8)
   have h:=ok3 _ _ h2
   rw [e1,e3] at h
   exact ⟨_,h⟩
theorem ZlZ:joinedFacts Tryz.prog 3 Tryz.f3 Rows.requestAgreesSpec Rows.requestAgreesRow=true:=by
 unfold joinedFacts
 rw [Zny,Zpy,ZmQ]
 change _=_
 kernel_rfl
theorem holds3:Rows.RequestAgreesSaid:=
 OpenClaim.holds_of_wide 3 Tryz.f3 rfl rfl rfl rfl rfl rfl rfl ⟨rfl,rfl,rfl,rfl,rfl⟩ rfl rfl rfl rfl rfl (by kernel_rfl) Tryz.func3 ZlZ
  (of_decide_eq_true (by kernel_rfl)) (by unfold Func.isWrapper;first | (rw [if_pos (by decide +kernel)];kernel_rfl) | (rw [if_neg (by decide +kernel)];exact ⟨rfl,rfl⟩))
  (fun os started H enc _=>ZkU os started H enc)
#print axioms holds3
end Go.Proofs.YtapbmpfhogkkaaaGreat
