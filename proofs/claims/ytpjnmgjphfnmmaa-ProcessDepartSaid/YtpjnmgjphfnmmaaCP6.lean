/- ProcessDepart: behind the departure of a core no process is on it, exactly the running processes that were on this core alone have ended, and the others keep their cores. No condition beyond those of the given statement. -/
import Derived.Test.YtpjnmgjphfnmmaaM6
namespace Go.Proofs.Ytpjnmgjphfnmmaa
open Go Go.AM
set_option maxRecDepth 100000
theorem Zsa (os:Os) (started:os.Started) (H:Type) (enc:TypeId×Value→H) :
  ReturnsInHanded {} Try.checked os 6 .any (Rows.processDepartSpec.pre6 enc Try.prog Try.f6 Rows.processDepartRow.domain false) (Rows.processDepartSpec.post enc Try.prog Try.f6 Rows.processDepartRow.apart Rows.processDepartRow.fresh Rows.processDepartRow.handsOn Rows.processDepartRow.again):=by
 refine returnsInHanded_of_change (C:=Try.checked) Zmw started (by kernel_rfl) Try.func6
  (ChangeSpec.witness6 (enc:=enc) (C:=Try.checked) false ⟨#[],#[.int .i64 0,.slice none 0 0,.int .i64 0],[]⟩ 8 (by kernel_rfl) (by kernel_rfl) (by kernel_rfl) (by kernel_rfl)) ?_
 intro W base args ds gs before hval hW _ _
 refine ZfT (d:=8) laid (fun t ht=>Zvb t ?_) (by kernel_rfl:Try.f6.resultTypes = #[4]) Try.underlying4 rfl (fun ds hd=>?_) (fun xs hx hty=>?_) W base args ds gs before hval hW
 ·have:(Try.f6.params.toList.all fun t=>Zsh.contains t)=true:=by kernel_rfl
  rw [List.all_eq_true] at this
  exact this t ht
 ·rw [Try.params6] at hd
  match ds,hd with
  | [d0, d1, d2], _ => rfl
 ·rw [Try.params6] at hx hty
  match xs,hx with
  | [x0, x1, x2], _ =>
   obtain ⟨z0,rfl⟩:=arg_int (hty 0 _ _ rfl rfl)
   obtain ⟨l1,rfl,hl1⟩:=ZnC (hty 1 _ _ rfl rfl)
   obtain ⟨z2,rfl⟩:=arg_int (hty 2 _ _ rfl rfl)
   obtain ⟨rows',h⟩:=Go.W.s6 z0 l1 z2
   exact J4.entryS (p:=153) (ok6 [.i z0,.l (l1.map Go.W.stepc),.i z2,.l []] (true,rows') h) rfl
theorem Zr5:joinedFacts Try.prog 6 Try.f6 Rows.processDepartSpec Rows.processDepartRow=true:=by
 unfold joinedFacts
 rw [ZtL,Zvl,ZuO]
 change _=_
 kernel_rfl
theorem holds6:Rows.ProcessDepartSaid:=
 OpenClaim.holds_of_wide 6 Try.f6 rfl rfl rfl rfl rfl rfl rfl ⟨rfl,rfl,rfl,rfl,rfl⟩ rfl rfl rfl rfl rfl (by kernel_rfl) Try.func6 Zr5
  (of_decide_eq_true (by kernel_rfl)) (by unfold Func.isWrapper;first | (rw [if_pos (by decide +kernel)];kernel_rfl) | (rw [if_neg (by decide +kernel)];exact ⟨rfl,rfl⟩))
  (fun os started H enc _=>Zsa os started H enc)
#print axioms holds6
end Go.Proofs.Ytpjnmgjphfnmmaa
