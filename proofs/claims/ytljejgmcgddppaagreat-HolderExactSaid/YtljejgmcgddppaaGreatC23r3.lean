/- Handle equals the reference, for valid slots and marks and messages of all kinds. No condition beyond those of the given statement. -/
import Derived.Test.YtljejgmcgddppaaGreatM6
namespace Go.Proofs.YtljejgmcgddppaaGreat
open Go Go.AM
set_option maxRecDepth 100000
theorem ZpS (os:Os) (started:os.Started) (H:Type) (enc:TypeId×Value→H) :
  ReturnsInHanded {} Tryz.checked os 3 .any (Rows.holderExactSpec.pre6 enc Tryz.prog Tryz.f3 Rows.holderExactRow.domain false) (Rows.holderExactSpec.post enc Tryz.prog Tryz.f3 Rows.holderExactRow.apart Rows.holderExactRow.fresh Rows.holderExactRow.handsOn Rows.holderExactRow.again):=by
 refine returnsInHanded_of_change (C:=Tryz.checked) Zm8 started (by kernel_rfl) Tryz.func3
  (ChangeSpec.witness6 (enc:=enc) (C:=Tryz.checked) false ⟨#[],#[.int .i64 0,.slice none 0 0,.slice none 0 0,.int .i64 0,.slice none 0 0,.int .i64 0],[]⟩ 12 (by kernel_rfl) (by kernel_rfl) (by kernel_rfl) (by kernel_rfl)) ?_
 intro W base args ds gs before hval hW _ _
 refine Zfj (d:=12) Zz7 (fun t ht=>Zx6 t ?_) (by kernel_rfl:Tryz.f3.resultTypes = #[4]) Tryz.underlying4 rfl (fun ds hd=>?_) (fun xs hx hty=>?_) W base args ds gs before hval hW
 ·have:(Tryz.f3.params.toList.all fun t=>Zqy.contains t)=true:=by kernel_rfl
  rw [List.all_eq_true] at this
  exact this t ht
 ·rw [Tryz.params3] at hd
  match ds,hd with
  | [d0, d1, d2, d3, d4, d5], _ => rfl
 ·rw [Tryz.params3] at hx hty
  match xs,hx with
  | [x0, x1, x2, x3, x4, x5], _ =>
   obtain ⟨z0,rfl⟩:=arg_int (hty 0 _ _ rfl rfl)
   obtain ⟨zs1,rfl,hhl1⟩:=ZjL (hty 1 _ _ rfl rfl)
   obtain ⟨sts2,rfl,hn2⟩:=ZmU (hty 2 _ _ rfl rfl)
   obtain ⟨z3,rfl⟩:=arg_int (hty 3 _ _ rfl rfl)
   obtain ⟨zs4,rfl,hhl4⟩:=ZjL (hty 4 _ _ rfl rfl)
   obtain ⟨z5,rfl⟩:=arg_int (hty 5 _ _ rfl rfl)
   have e1:K2 F3.S.args [.i z0,.l (Za zs1),.l (sts2.map Zbt),.i z3,.l (Za zs4),.i z5] 0 = [I z0,.slice false 1 (Za zs1),.slice false 10 (sts2.map Zbt),I z3,.slice false 1 (Za zs4),I z5]:=by kernel_rfl
   have e2:(g3 z0 ((Za zs1)) ((sts2.map Zbt)) z3 ((Za zs4)) z5=some true)=(F3.S.g [.i z0,.l (Za zs1),.l (sts2.map Zbt),.i z3,.l (Za zs4),.i z5]=some (cast (by kernel_rfl:Bool=ShsT (Zbq F3.S.res F3.S.args)) true)):=by kernel_rfl
   have e3:VD F3.S.res (ZdN (Zbq F3.S.res F3.S.args) (cast (by kernel_rfl:Bool=ShsT (Zbq F3.S.res F3.S.args)) true)) 0 = .val (.bool true):=by kernel_rfl
   have h2:=Eq.mp e2 (s3 z0 zs1 sts2 hn2 z3 zs4 z5)
   have h:=ok3 _ _ h2
   rw [e1,e3] at h
   exact ⟨_,h⟩
theorem Zrt:joinedFacts Tryz.prog 3 Tryz.f3 Rows.holderExactSpec Rows.holderExactRow=true:=by
 unfold joinedFacts
 rw [Zts,ZyJ,ZuU]
 change _=_
 kernel_rfl
theorem holds3:Rows.HolderExactSaid:=
 OpenClaim.holds_of_wide 3 Tryz.f3 rfl rfl rfl rfl rfl rfl rfl ⟨rfl,rfl,rfl,rfl,rfl⟩ rfl rfl rfl rfl rfl (by kernel_rfl) Tryz.func3 Zrt
  (of_decide_eq_true (by kernel_rfl)) (by unfold Func.isWrapper; first | (rw [if_pos (by decide +kernel)]; kernel_rfl) | (rw [if_neg (by decide +kernel)]; exact ⟨rfl,rfl⟩))
  (fun os started H enc _=>ZpS os started H enc)
#print axioms holds3
end Go.Proofs.YtljejgmcgddppaaGreat
