/- A likely call is answered as the reference answers it. No condition beyond those of the given statement. -/
import Derived.Test.YtmjkdbpffdampaaGreatM6
namespace Go.Proofs.YtmjkdbpffdampaaGreat
open Go Go.AM
set_option maxRecDepth 100000
theorem Zkt (os:Os) (started:os.Started) (H:Type) (enc:TypeId×Value→H) :
  ReturnsInHanded {} Tryz.checked os 3 .any (Rows.requestLikelySpec.pre6 enc Tryz.prog Tryz.f3 Rows.requestLikelyRow.domain false) (Rows.requestLikelySpec.post enc Tryz.prog Tryz.f3 Rows.requestLikelyRow.apart Rows.requestLikelyRow.fresh Rows.requestLikelyRow.handsOn Rows.requestLikelyRow.again):=by
 refine returnsInHanded_of_change (C:=Tryz.checked) ZgI started (by kernel_rfl) Tryz.func3
  (ChangeSpec.witness6 (enc:=enc) (C:=Tryz.checked) false ⟨#[],#[.slice none 0 0,.slice none 0 0,.slice none 0 0,.int .i64 0,.int .i64 0,.agg #[.int .i64 0,.int .i64 0,.int .i64 0,.int .i64 0,.int .i64 0,.int .i64 0,.int .i64 0,.int .i64 0,.int .i64 0],.int .i64 0],[]⟩ 12 (by kernel_rfl) (by kernel_rfl) (by kernel_rfl) (by kernel_rfl)) ?_
 intro W base args ds gs before hval hW _ _
 refine ZcB (d:=12) ZoI (fun t ht=>ZnE t ?_) (by kernel_rfl:Tryz.f3.resultTypes = #[4]) Tryz.underlying4 rfl (fun ds hd=>?_) (fun xs hx hty=>?_) W base args ds gs before hval hW
 ·have:(Tryz.f3.params.toList.all fun t=>ZkM.contains t)=true:=by kernel_rfl
  rw [List.all_eq_true] at this
  exact this t ht
 ·rw [Tryz.params3] at hd
  match ds,hd with
  | [d0, d1, d2, d3, d4, d5, d6], _ => rfl
 ·rw [Tryz.params3] at hx hty
  match xs,hx with
  | [x0, x1, x2, x3, x4, x5, x6], _ =>
   obtain ⟨zs0,rfl,hhl0⟩:=Zfn (hty 0 _ _ rfl rfl)
   obtain ⟨zs1,rfl,hhl1⟩:=Zfn (hty 1 _ _ rfl rfl)
   obtain ⟨sts2,rfl,hn2⟩:=Zii (hty 2 _ _ rfl rfl)
   obtain ⟨z3,rfl⟩:=arg_int (hty 3 _ _ rfl rfl)
   obtain ⟨z4,rfl⟩:=arg_int (hty 4 _ _ rfl rfl)
   obtain ⟨w5_0,w5_1,w5_2,w5_3,w5_4,w5_5,w5_6,w5_7,w5_8,rfl⟩:=Zja (hty 5 _ _ rfl rfl)
   obtain ⟨z6,rfl⟩:=arg_int (hty 6 _ _ rfl rfl)
   have e1:YQ F3.S.args [.l (Ze zs0),.l (Ze zs1),.l (sts2.map Wj),.i z3,.i z4,.i w5_0,.i w5_1,.i w5_2,.i w5_3,.i w5_4,.i w5_5,.i w5_6,.i w5_7,.i w5_8,.i z6] 0 = [.slice false 1 (Ze zs0),.slice false 1 (Ze zs1),.slice false 10 (sts2.map Wj),I z3,I z4,.agg [I w5_0,I w5_1,I w5_2,I w5_3,I w5_4,I w5_5,I w5_6,I w5_7,I w5_8],I z6]:=by kernel_rfl
   have e2:(g3 ((Ze zs0)) ((Ze zs1)) ((sts2.map Wj)) z3 z4 w5_0 w5_1 w5_2 w5_3 w5_4 w5_5 w5_6 w5_7 w5_8 z6=some true)=(F3.S.g [.l (Ze zs0),.l (Ze zs1),.l (sts2.map Wj),.i z3,.i z4,.i w5_0,.i w5_1,.i w5_2,.i w5_3,.i w5_4,.i w5_5,.i w5_6,.i w5_7,.i w5_8,.i z6]=some (cast (by kernel_rfl:Bool=ShsT (V9 F3.S.res F3.S.args)) true)):=by kernel_rfl
   have e3:Ki F3.S.res (ZaY (V9 F3.S.res F3.S.args) (cast (by kernel_rfl:Bool=ShsT (V9 F3.S.res F3.S.args)) true)) 0 = .val (.bool true):=by kernel_rfl
   have h2:=Eq.mp e2 (s3 zs0 zs1 sts2 hn2 z3 z4 w5_0 w5_1 w5_2 w5_3 w5_4 w5_5 w5_6 w5_7 w5_8 z6)
   have h:=ok3 _ _ h2
   rw [e1,e3] at h
   exact ⟨_,h⟩
theorem ZkV:joinedFacts Tryz.prog 3 Tryz.f3 Rows.requestLikelySpec Rows.requestLikelyRow=true:=by
 unfold joinedFacts
 rw [Zl6,ZnZ,Znc]
 change _=_
 kernel_rfl
theorem holds3:Rows.RequestLikelySaid:=
 OpenClaim.holds_of_wide 3 Tryz.f3 rfl rfl rfl rfl rfl rfl rfl ⟨rfl,rfl,rfl,rfl,rfl⟩ rfl rfl rfl rfl rfl (by kernel_rfl) Tryz.func3 ZkV
  (of_decide_eq_true (by kernel_rfl)) (by unfold Func.isWrapper;first | (rw [if_pos (by decide +kernel)];kernel_rfl) | (rw [if_neg (by decide +kernel)];exact ⟨rfl,rfl⟩))
  (fun os started H enc _=>Zkt os started H enc)
#print axioms holds3
end Go.Proofs.YtmjkdbpffdampaaGreat
