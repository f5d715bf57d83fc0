/- The slots that a likely call reserves are those that it involves, in order, and the request says so. No condition beyond those of the given statement. -/
import Derived.Test.YtmjkdbpffdampaaM6
namespace Go.Proofs.Ytmjkdbpffdampaa
open Go Go.AM
set_option maxRecDepth 100000
theorem Zkx (os:Os) (started:os.Started) (H:Type) (enc:TypeId×Value→H) :
  ReturnsInHanded {} Try.checked os 3 .any (Rows.requestReservesSpec.pre6 enc Try.prog Try.f3 Rows.requestReservesRow.domain false) (Rows.requestReservesSpec.post enc Try.prog Try.f3 Rows.requestReservesRow.apart Rows.requestReservesRow.fresh Rows.requestReservesRow.handsOn Rows.requestReservesRow.again):=by
 refine returnsInHanded_of_change (C:=Try.checked) Zdb started (by kernel_rfl) Try.func3
  (ChangeSpec.witness6 (enc:=enc) (C:=Try.checked) false ⟨#[],#[.slice none 0 0,.slice none 0 0,.int .i64 0,.int .i64 0,.agg #[.int .i64 0,.int .i64 0,.int .i64 0,.int .i64 0,.int .i64 0,.int .i64 0,.int .i64 0,.int .i64 0,.int .i64 0]],[]⟩ 12 (by kernel_rfl) (by kernel_rfl) (by kernel_rfl) (by kernel_rfl)) ?_
 intro W base args ds gs before hval hW _ _
 refine VH (d:=12) ZoF (fun t ht=>Zmt t ?_) (by kernel_rfl:Try.f3.resultTypes = #[4]) Try.underlying4 rfl (fun ds hd=>?_) (fun xs hx hty=>?_) W base args ds gs before hval hW
 ·have:(Try.f3.params.toList.all fun t=>ZiC.contains t)=true:=by kernel_rfl
  rw [List.all_eq_true] at this
  exact this t ht
 ·rw [Try.params3] at hd
  match ds,hd with
  | [d0, d1, d2, d3, d4], _ => rfl
 ·rw [Try.params3] at hx hty
  match xs,hx with
  | [x0, x1, x2, x3, x4], _ =>
   obtain ⟨zs0,rfl,hhl0⟩:=Zjf (hty 0 _ _ rfl rfl)
   obtain ⟨sts1,rfl,hn1⟩:=Zdo (hty 1 _ _ rfl rfl)
   obtain ⟨z2,rfl⟩:=arg_int (hty 2 _ _ rfl rfl)
   obtain ⟨z3,rfl⟩:=arg_int (hty 3 _ _ rfl rfl)
   obtain ⟨w4_0,w4_1,w4_2,w4_3,w4_4,w4_5,w4_6,w4_7,w4_8,rfl⟩:=Zip (hty 4 _ _ rfl rfl)
   have e1:YE F3.S.args [.l (Zb zs0),.l (sts1.map Y3),.i z2,.i z3,.i w4_0,.i w4_1,.i w4_2,.i w4_3,.i w4_4,.i w4_5,.i w4_6,.i w4_7,.i w4_8] 0 = [.slice false 1 (Zb zs0),.slice false 10 (sts1.map Y3),I z2,I z3,.agg [I w4_0,I w4_1,I w4_2,I w4_3,I w4_4,I w4_5,I w4_6,I w4_7,I w4_8]]:=by kernel_rfl
   have e2:(g3 ((Zb zs0)) ((sts1.map Y3)) z2 z3 w4_0 w4_1 w4_2 w4_3 w4_4 w4_5 w4_6 w4_7 w4_8=some true)=(F3.S.g [.l (Zb zs0),.l (sts1.map Y3),.i z2,.i z3,.i w4_0,.i w4_1,.i w4_2,.i w4_3,.i w4_4,.i w4_5,.i w4_6,.i w4_7,.i w4_8]=some (cast (by kernel_rfl:Bool=ShsT (K0 F3.S.res F3.S.args)) true)):=by kernel_rfl
   have e3:YO F3.S.res (ZaE (K0 F3.S.res F3.S.args) (cast (by kernel_rfl:Bool=ShsT (K0 F3.S.res F3.S.args)) true)) 0 = .val (.bool true):=by kernel_rfl
   have h2:=Eq.mp e2 (s3 zs0 sts1 hn1 z2 z3 w4_0 w4_1 w4_2 w4_3 w4_4 w4_5 w4_6 w4_7 w4_8)
   have h:=ok3 _ _ h2
   rw [e1,e3] at h
   exact ⟨_,h⟩
theorem Zkm:joinedFacts Try.prog 3 Try.f3 Rows.requestReservesSpec Rows.requestReservesRow=true:=by
 unfold joinedFacts
 rw [ZjH,Znm,ZjT]
 change _=_
 kernel_rfl
theorem holds3:Rows.RequestReservesSaid:=
 OpenClaim.holds_of_wide 3 Try.f3 rfl rfl rfl rfl rfl rfl rfl ⟨rfl,rfl,rfl,rfl,rfl⟩ rfl rfl rfl rfl rfl (by kernel_rfl) Try.func3 Zkm
  (of_decide_eq_true (by kernel_rfl)) (by unfold Func.isWrapper;first | (rw [if_pos (by decide +kernel)];kernel_rfl) | (rw [if_neg (by decide +kernel)];exact ⟨rfl,rfl⟩))
  (fun os started H enc _=>Zkx os started H enc)
#print axioms holds3
end Go.Proofs.Ytmjkdbpffdampaa
