/- ProcessClone: a clone is independent of its original. No condition beyond those of the given statement. -/
import Derived.Test.YtpjnmgjphfnmmaaM7
namespace Go.Proofs.Ytpjnmgjphfnmmaa
open Go Go.AM
set_option maxRecDepth 100000
theorem Zs6 (os:Os) (started:os.Started) (H:Type) (enc:TypeId×Value→H) :
  ReturnsInHanded {} Try.checked os 7 .any (Rows.processCloneSpec.pre6 enc Try.prog Try.f7 Rows.processCloneRow.domain false) (Rows.processCloneSpec.post enc Try.prog Try.f7 Rows.processCloneRow.apart Rows.processCloneRow.fresh Rows.processCloneRow.handsOn Rows.processCloneRow.again):=by
 refine returnsInHanded_of_change (C:=Try.checked) Zns started (by kernel_rfl) Try.func7
  (ChangeSpec.witness6 (enc:=enc) (C:=Try.checked) false ⟨#[],#[.int .i64 0,.slice none 0 0,.slice none 0 0],[]⟩ 8 (by kernel_rfl) (by kernel_rfl) (by kernel_rfl) (by kernel_rfl)) ?_
 intro W base args ds gs before hval hW _ _
 refine ZgX (d:=8) laid (fun t ht=>Zww t ?_) (by kernel_rfl:Try.f7.resultTypes = #[4]) Try.underlying4 rfl (fun ds hd=>?_) (fun xs hx hty=>?_) W base args ds gs before hval hW
 ·have:(Try.f7.params.toList.all fun t=>ZsF.contains t)=true:=by kernel_rfl
  rw [List.all_eq_true] at this
  exact this t ht
 ·rw [Try.params7] at hd
  match ds,hd with
  | [d0, d1, d2], _ => rfl
 ·rw [Try.params7] at hx hty
  match xs,hx with
  | [x0, x1, x2], _ =>
   obtain ⟨z0,rfl⟩:=arg_int (hty 0 _ _ rfl rfl)
   obtain ⟨l1,rfl,hl1⟩:=ZhY (hty 1 _ _ rfl rfl)
   obtain ⟨l2,rfl,hl2⟩:=ZhY (hty 2 _ _ rfl rfl)
   obtain ⟨rows',h⟩:=Go.W.s7 z0 l1 l2
   exact JN.entryS (p:=75) (ok7 [.i z0,.l (l1.map Go.W.stepc),.l (l2.map Go.W.stepc),.l []] (true,rows') h) rfl
theorem Ztv:joinedFacts Try.prog 7 Try.f7 Rows.processCloneSpec Rows.processCloneRow=true:=by
 unfold joinedFacts
 rw [Zv3,Zwi,Zvc]
 change _=_
 kernel_rfl
theorem holds7:Rows.ProcessCloneSaid:=
 OpenClaim.holds_of_wide 7 Try.f7 rfl rfl rfl rfl rfl rfl rfl ⟨rfl,rfl,rfl,rfl,rfl⟩ rfl rfl rfl rfl rfl (by kernel_rfl) Try.func7 Ztv
  (of_decide_eq_true (by kernel_rfl)) (by unfold Func.isWrapper;first | (rw [if_pos (by decide +kernel)];kernel_rfl) | (rw [if_neg (by decide +kernel)];exact ⟨rfl,rfl⟩))
  (fun os started H enc _=>Zs6 os started H enc)
#print axioms holds7
end Go.Proofs.Ytpjnmgjphfnmmaa
