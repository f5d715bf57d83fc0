/- An owner whose requests come one after the other, and are answered, gives the same errors and the same forest as the sequential machine. No condition beyond those of the given statement. -/
import Derived.Test.YtnkmbgbpkgmbnaaGreatM7
namespace Go.Proofs.YtnkmbgbpkgmbnaaGreat
open Go Go.AM
set_option maxRecDepth 100000
theorem Zq4 (j:Os) (c:j.Started) (H:Type) (enc:TypeId×Value→H) :
  ReturnsInHanded {} Tryz.checked j 3 .any (Rows.ownerAgreesSpec.pre6 enc Tryz.prog Tryz.f3 Rows.ownerAgreesRow.domain false) (Rows.ownerAgreesSpec.post enc Tryz.prog Tryz.f3 Rows.ownerAgreesRow.apart Rows.ownerAgreesRow.fresh Rows.ownerAgreesRow.handsOn Rows.ownerAgreesRow.again):=by
 refine returnsInHanded_of_change (C:=Tryz.checked) Zll c (by a) Tryz.func3
  (ChangeSpec.witness6 (enc:=enc) (C:=Tryz.checked) false ⟨#[],#[.slice none 0 0],[]⟩ 12 (by a) (by a) (by a) (by a)) ?_
 intro W base args ds n before e o _ _
 refine Zfe (d:=12) ZBl (fun t p=>ZzB t ?_) (by a:Tryz.f3.resultTypes = #[4]) Tryz.underlying4 rfl (fun ds k=>?_) (fun xs m f=>?_) W base args ds n before e o
 ·have:(Tryz.f3.params.toList.all fun t=>ZrX.contains t)=true:=by a
  rw [List.all_eq_true] at this
  exact this t p
 ·rw [Tryz.params3] at k
  match ds,k with
  | [d0], _ => rfl
 ·rw [Tryz.params3] at m f
  match xs,m with
  | [x0], _ =>
   obtain ⟨b,rfl,i⟩:=Zls (f 0 _ _ rfl rfl)
   have q:KO F3.S.args [.l (b.map spc)] 0 = [.slice false 10 (b.map spc)]:=by a
   have r:(g3 ((b.map spc))=some true)=(F3.S.g [.l (b.map spc)]=some (cast (by a:Bool=ShsT (ZaW F3.S.res F3.S.args)) true)):=by a
   have s:Kx F3.S.res (Zc4 (ZaW F3.S.res F3.S.args) (cast (by a:Bool=ShsT (ZaW F3.S.res F3.S.args)) true)) 0 = .val (.bool true):=by a
   have u:=Eq.mp r (s3x b i)
   have h:=ok3 _ _ u
   rw [q,s] at h
   exact ⟨_,h⟩
theorem Zr9:joinedFacts Tryz.prog 3 Tryz.f3 Rows.ownerAgreesSpec Rows.ownerAgreesRow=true:=by
 unfold joinedFacts
 rw [ZvD,ZzC,Zuh]
 change _=_
 kernel_rfl
theorem holds3:Rows.OwnerAgreesSaid:=
 OpenClaim.holds_of_wide 3 Tryz.f3 rfl rfl rfl rfl rfl rfl rfl ⟨rfl,rfl,rfl,rfl,rfl⟩ rfl rfl rfl rfl rfl (by kernel_rfl) Tryz.func3 Zr9
  (of_decide_eq_true (by kernel_rfl)) (by unfold Func.isWrapper;first | (rw [if_pos (by decide +kernel)];kernel_rfl) | (rw [if_neg (by decide +kernel)];exact ⟨rfl,rfl⟩))
  (fun b a H enc _=>Zq4 b a H enc)
#print axioms holds3
end Go.Proofs.YtnkmbgbpkgmbnaaGreat
