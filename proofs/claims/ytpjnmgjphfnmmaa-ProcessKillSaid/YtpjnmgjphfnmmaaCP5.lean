/- ProcessKill: behind Kill neither the target nor any process that was its descendant is running, every other process runs as before, and only a process itself or an ancestor may kill it. No condition beyond those of the given statement. -/
import Derived.Test.YtpjnmgjphfnmmaaM6
namespace Go.Proofs.Ytpjnmgjphfnmmaa
open Go Go.AM
set_option maxRecDepth 100000
theorem Zso (os:Os) (started:os.Started) (H:Type) (enc:TypeId×Value→H) :
  ReturnsInHanded {} Try.checked os 5 .any (Rows.processKillSpec.pre6 enc Try.prog Try.f5 Rows.processKillRow.domain false) (Rows.processKillSpec.post enc Try.prog Try.f5 Rows.processKillRow.apart Rows.processKillRow.fresh Rows.processKillRow.handsOn Rows.processKillRow.again):=by
 refine returnsInHanded_of_change (C:=Try.checked) Zn4 started (by kernel_rfl) Try.func5
  (ChangeSpec.witness6 (enc:=enc) (C:=Try.checked) false ⟨#[],#[.int .i64 0,.slice none 0 0,.int .i64 0,.int .i64 0],[]⟩ 8 (by kernel_rfl) (by kernel_rfl) (by kernel_rfl) (by kernel_rfl)) ?_
 intro W base args ds gs before hval hW _ _
 refine ZgO (d:=8) laid (fun t ht=>Zvb t ?_) (by kernel_rfl:Try.f5.resultTypes = #[4]) Try.underlying4 rfl (fun ds hd=>?_) (fun xs hx hty=>?_) W base args ds gs before hval hW
 ·have:(Try.f5.params.toList.all fun t=>ZsF.contains t)=true:=by kernel_rfl
  rw [List.all_eq_true] at this
  exact this t ht
 ·rw [Try.params5] at hd
  match ds,hd with
  | [d0, d1, d2, d3], _ => rfl
 ·rw [Try.params5] at hx hty
  match xs,hx with
  | [x0, x1, x2, x3], _ =>
   obtain ⟨z0,rfl⟩:=arg_int (hty 0 _ _ rfl rfl)
   obtain ⟨l1,rfl,hl1⟩:=Znd (hty 1 _ _ rfl rfl)
   obtain ⟨z2,rfl⟩:=arg_int (hty 2 _ _ rfl rfl)
   obtain ⟨z3,rfl⟩:=arg_int (hty 3 _ _ rfl rfl)
   obtain ⟨rows',h⟩:=Go.W.s5 z0 l1 z2 z3
   exact J1.entryS (p:=176) (ok5 [.i z0,.l (l1.map Go.W.stepc),.i z2,.i z3,.l []] (true,rows') h) rfl
theorem Zsq:joinedFacts Try.prog 5 Try.f5 Rows.processKillSpec Rows.processKillRow=true:=by
 unfold joinedFacts
 rw [ZuE,Zvd,Zt3]
 change _=_
 kernel_rfl
theorem holds5:Rows.ProcessKillSaid:=
 OpenClaim.holds_of_wide 5 Try.f5 rfl rfl rfl rfl rfl rfl rfl ⟨rfl,rfl,rfl,rfl,rfl⟩ rfl rfl rfl rfl rfl (by kernel_rfl) Try.func5 Zsq
  (of_decide_eq_true (by kernel_rfl)) (by unfold Func.isWrapper;first | (rw [if_pos (by decide +kernel)];kernel_rfl) | (rw [if_neg (by decide +kernel)];exact ⟨rfl,rfl⟩))
  (fun os started H enc _=>Zso os started H enc)
#print axioms holds5
end Go.Proofs.Ytpjnmgjphfnmmaa
