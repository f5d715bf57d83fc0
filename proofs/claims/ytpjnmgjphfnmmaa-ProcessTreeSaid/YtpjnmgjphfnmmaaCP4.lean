/- ProcessTree: under every script the processes form a tree with process 1 as its root, a child of an ended process other than process 1 belongs to process 1, a running process has a core, and a waiting one has a running child and no ended one. No condition beyond those of the given statement. -/
import Derived.Test.YtpjnmgjphfnmmaaM7
namespace Go.Proofs.Ytpjnmgjphfnmmaa
open Go Go.AM
set_option maxRecDepth 100000
theorem Zr8 (os:Os) (started:os.Started) (H:Type) (enc:TypeId×Value→H) :
  ReturnsInHanded {} Try.checked os 4 .any (Rows.processTreeSpec.pre6 enc Try.prog Try.f4 Rows.processTreeRow.domain false) (Rows.processTreeSpec.post enc Try.prog Try.f4 Rows.processTreeRow.apart Rows.processTreeRow.fresh Rows.processTreeRow.handsOn Rows.processTreeRow.again):=by
 refine returnsInHanded_of_change (C:=Try.checked) Zm8 started (by kernel_rfl) Try.func4
  (ChangeSpec.witness6 (enc:=enc) (C:=Try.checked) false ⟨#[],#[.int .i64 0,.slice none 0 0],[]⟩ 8 (by kernel_rfl) (by kernel_rfl) (by kernel_rfl) (by kernel_rfl)) ?_
 intro W base args ds gs before hval hW _ _
 refine ZgF (d:=8) laid (fun t ht=>ZvF t ?_) (by kernel_rfl:Try.f4.resultTypes = #[4]) Try.underlying4 rfl (fun ds hd=>?_) (fun xs hx hty=>?_) W base args ds gs before hval hW
 ·have:(Try.f4.params.toList.all fun t=>ZrS.contains t)=true:=by kernel_rfl
  rw [List.all_eq_true] at this
  exact this t ht
 ·rw [Try.params4] at hd
  match ds,hd with
  | [d0, d1], _ => rfl
 ·rw [Try.params4] at hx hty
  match xs,hx with
  | [x0, x1], _ =>
   obtain ⟨z0,rfl⟩:=arg_int (hty 0 _ _ rfl rfl)
   obtain ⟨l1,rfl,hl1⟩:=ZmJ (hty 1 _ _ rfl rfl)
   obtain ⟨rows',h⟩:=Go.W.s4 z0 l1
   exact J3.entryS (p:=42) (ok4 [.i z0,.l (l1.map Go.W.stepc),.l []] (true,rows') h) rfl
theorem Zr6:joinedFacts Try.prog 4 Try.f4 Rows.processTreeSpec Rows.processTreeRow=true:=by
 unfold joinedFacts
 rw [Ztn,Zvm,Zuf]
 change _=_
 kernel_rfl
theorem holds4:Rows.ProcessTreeSaid:=
 OpenClaim.holds_of_wide 4 Try.f4 rfl rfl rfl rfl rfl rfl rfl ⟨rfl,rfl,rfl,rfl,rfl⟩ rfl rfl rfl rfl rfl (by kernel_rfl) Try.func4 Zr6
  (of_decide_eq_true (by kernel_rfl)) (by unfold Func.isWrapper;first | (rw [if_pos (by decide +kernel)];kernel_rfl) | (rw [if_neg (by decide +kernel)];exact ⟨rfl,rfl⟩))
  (fun os started H enc _=>Zr8 os started H enc)
#print axioms holds4
end Go.Proofs.Ytpjnmgjphfnmmaa
