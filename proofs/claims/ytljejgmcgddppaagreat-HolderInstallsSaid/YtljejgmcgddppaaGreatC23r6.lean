/- An install puts a node into an empty slot that is not busy, and otherwise changes nothing and reports why. No condition beyond those of the given statement. -/
import Derived.Test.YtljejgmcgddppaaGreatM6
namespace Go.Proofs.YtljejgmcgddppaaGreat
open Go Go.AM
set_option maxRecDepth 100000
theorem Zqn (os:Os) (started:os.Started) (H:Type) (enc:TypeId×Value→H) :
  ReturnsInHanded {} Tryz.checked os 6 .any (Rows.holderInstallsSpec.pre6 enc Tryz.prog Tryz.f6 Rows.holderInstallsRow.domain false) (Rows.holderInstallsSpec.post enc Tryz.prog Tryz.f6 Rows.holderInstallsRow.apart Rows.holderInstallsRow.fresh Rows.holderInstallsRow.handsOn Rows.holderInstallsRow.again):=by
 refine returnsInHanded_of_change (C:=Tryz.checked) Znw started (by kernel_rfl) Tryz.func6
  (ChangeSpec.witness6 (enc:=enc) (C:=Tryz.checked) false ⟨#[],#[.int .i64 0,.slice none 0 0,.slice none 0 0,.int .i64 0,.int .i64 0],[]⟩ 12 (by kernel_rfl) (by kernel_rfl) (by kernel_rfl) (by kernel_rfl)) ?_
 intro W base args ds gs before hval hW _ _
 refine Zfh (d:=12) ZzJ (fun t ht=>Zwz t ?_) (by kernel_rfl:Tryz.f6.resultTypes = #[4]) Tryz.underlying4 rfl (fun ds hd=>?_) (fun xs hx hty=>?_) W base args ds gs before hval hW
 ·have:(Tryz.f6.params.toList.all fun t=>Zr5.contains t)=true:=by kernel_rfl
  rw [List.all_eq_true] at this
  exact this t ht
 ·rw [Tryz.params6] at hd
  match ds,hd with
  | [d0, d1, d2, d3, d4], _ => rfl
 ·rw [Tryz.params6] at hx hty
  match xs,hx with
  | [x0, x1, x2, x3, x4], _ =>
   obtain ⟨z0,rfl⟩:=arg_int (hty 0 _ _ rfl rfl)
   obtain ⟨zs1,rfl,hhl1⟩:=Zop (hty 1 _ _ rfl rfl)
   obtain ⟨sts2,rfl,hn2⟩:=Zmn (hty 2 _ _ rfl rfl)
   obtain ⟨z3,rfl⟩:=arg_int (hty 3 _ _ rfl rfl)
   obtain ⟨z4,rfl⟩:=arg_int (hty 4 _ _ rfl rfl)
   have e1:K4 F6.S.args [.i z0,.l (Za zs1),.l (sts2.map Zac),.i z3,.i z4] 0 = [I z0,.slice false 1 (Za zs1),.slice false 10 (sts2.map Zac),I z3,I z4]:=by kernel_rfl
   have e2:(g6 z0 ((Za zs1)) ((sts2.map Zac)) z3 z4=some true)=(F6.S.g [.i z0,.l (Za zs1),.l (sts2.map Zac),.i z3,.i z4]=some (cast (by kernel_rfl:Bool=ShsT (Zbu F6.S.res F6.S.args)) true)):=by kernel_rfl
   have e3:VG F6.S.res (ZdT (Zbu F6.S.res F6.S.args) (cast (by kernel_rfl:Bool=ShsT (Zbu F6.S.res F6.S.args)) true)) 0 = .val (.bool true):=by kernel_rfl
   have h2:=Eq.mp e2 (s6 z0 zs1 sts2 hn2 z3 z4)
   have h:=ok6 _ _ h2
   rw [e1,e3] at h
   exact ⟨_,h⟩
theorem ZrI:joinedFacts Tryz.prog 6 Tryz.f6 Rows.holderInstallsSpec Rows.holderInstallsRow=true:=by
 unfold joinedFacts
 rw [Zs5,Zxa,ZuG]
 change _=_
 kernel_rfl
theorem holds6:Rows.HolderInstallsSaid:=
 OpenClaim.holds_of_wide 6 Tryz.f6 rfl rfl rfl rfl rfl rfl rfl ⟨rfl,rfl,rfl,rfl,rfl⟩ rfl rfl rfl rfl rfl (by kernel_rfl) Tryz.func6 ZrI
  (of_decide_eq_true (by kernel_rfl)) (by unfold Func.isWrapper; first | (rw [if_pos (by decide +kernel)]; kernel_rfl) | (rw [if_neg (by decide +kernel)]; exact ⟨rfl,rfl⟩))
  (fun os started H enc _=>Zqn os started H enc)
#print axioms holds6
end Go.Proofs.YtljejgmcgddppaaGreat
