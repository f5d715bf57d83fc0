/- ProcessWait: a process with children hears of each of them exactly once, whatever the order in which they end and it waits. No condition beyond those of the given statement. -/
import Derived.Test.YtpjnmgjphfnmmaaM8
namespace Go.Proofs.Ytpjnmgjphfnmmaa
open Go Go.AM
set_option maxRecDepth 100000
theorem Zrk (os:Os) (started:os.Started) (H:Type) (enc:TypeId×Value→H) :
  ReturnsInHanded {} Try.checked os 3 .any (Rows.processWaitSpec.pre6 enc Try.prog Try.f3 Rows.processWaitRow.domain false) (Rows.processWaitSpec.post enc Try.prog Try.f3 Rows.processWaitRow.apart Rows.processWaitRow.fresh Rows.processWaitRow.handsOn Rows.processWaitRow.again):=by
 refine returnsInHanded_of_change (C:=Try.checked) ZnR started (by kernel_rfl) Try.func3
  (ChangeSpec.witness6 (enc:=enc) (C:=Try.checked) false ⟨#[],#[.int .i64 0,.slice none 0 0,.slice none 0 0],[]⟩ 8 (by kernel_rfl) (by kernel_rfl) (by kernel_rfl) (by kernel_rfl)) ?_
 intro W base args ds gs before hval hW _ _
 refine ZfE (d:=8) laid (fun t ht=>ZtS t ?_) (by kernel_rfl:Try.f3.resultTypes = #[4]) Try.underlying4 rfl (fun ds hd=>?_) (fun xs hx hty=>?_) W base args ds gs before hval hW
 ·have:(Try.f3.params.toList.all fun t=>ZrO.contains t)=true:=by kernel_rfl
  rw [List.all_eq_true] at this
  exact this t ht
 ·rw [Try.params3] at hd
  match ds,hd with
  | [d0, d1, d2], _ => rfl
 ·rw [Try.params3] at hx hty
  match xs,hx with
  | [x0, x1, x2], _ =>
   obtain ⟨z0,rfl⟩:=arg_int (hty 0 _ _ rfl rfl)
   obtain ⟨l1,rfl,hl1⟩:=Zpq (hty 1 _ _ rfl rfl)
   obtain ⟨l2,rfl,hl2⟩:=Zox (hty 2 _ _ rfl rfl)
   obtain ⟨rows',h⟩:=Go.W.s3 z0 l1 l2
   exact Yo.entryS (p:=181) (ok3 [.i z0,.l (l1.map fun z=>[I z]),.l (l2.map fun b=>[B b]),.l []] (true,rows') h) rfl
theorem ZqM:joinedFacts Try.prog 3 Try.f3 Rows.processWaitSpec Rows.processWaitRow=true:=by
 unfold joinedFacts
 rw [ZsP,Ztv,ZsG]
 change _=_
 kernel_rfl
theorem holds3:Rows.ProcessWaitSaid:=
 OpenClaim.holds_of_wide 3 Try.f3 rfl rfl rfl rfl rfl rfl rfl ⟨rfl,rfl,rfl,rfl,rfl⟩ rfl rfl rfl rfl rfl (by kernel_rfl) Try.func3 ZqM
  (of_decide_eq_true (by kernel_rfl)) (by unfold Func.isWrapper;first | (rw [if_pos (by decide +kernel)];kernel_rfl) | (rw [if_neg (by decide +kernel)];exact ⟨rfl,rfl⟩))
  (fun os started H enc _=>Zrk os started H enc)
#print axioms holds3
end Go.Proofs.Ytpjnmgjphfnmmaa
