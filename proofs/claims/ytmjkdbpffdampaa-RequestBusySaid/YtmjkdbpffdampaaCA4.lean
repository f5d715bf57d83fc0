/- A call that involves a slot in use is refused as busy. No condition beyond those of the given statement. -/
import Derived.Test.YtmjkdbpffdampaaM6
namespace Go.Proofs.Ytmjkdbpffdampaa
open Go Go.AM
set_option maxRecDepth 100000
theorem Zki (os:Os) (started:os.Started) (H:Type) (enc:TypeId×Value→H) :
  ReturnsInHanded {} Try.checked os 4 .any (Rows.requestBusySpec.pre6 enc Try.prog Try.f4 Rows.requestBusyRow.domain false) (Rows.requestBusySpec.post enc Try.prog Try.f4 Rows.requestBusyRow.apart Rows.requestBusyRow.fresh Rows.requestBusyRow.handsOn Rows.requestBusyRow.again):=by
 refine returnsInHanded_of_change (C:=Try.checked) Zdb started (by kernel_rfl) Try.func4
  (ChangeSpec.witness6 (enc:=enc) (C:=Try.checked) false ⟨#[],#[.slice none 0 0,.int .i64 0,.int .i64 0,.int .i64 0,.int .i64 0,.bool false],[]⟩ 12 (by kernel_rfl) (by kernel_rfl) (by kernel_rfl) (by kernel_rfl)) ?_
 intro W base args ds gs before hval hW _ _
 refine VH (d:=12) ZoF (fun t ht=>Zmt t ?_) (by kernel_rfl:Try.f4.resultTypes = #[4]) Try.underlying4 rfl (fun ds hd=>?_) (fun xs hx hty=>?_) W base args ds gs before hval hW
 ·have:(Try.f4.params.toList.all fun t=>ZiC.contains t)=true:=by kernel_rfl
  rw [List.all_eq_true] at this
  exact this t ht
 ·rw [Try.params4] at hd
  match ds,hd with
  | [d0, d1, d2, d3, d4, d5], _ => rfl
 ·rw [Try.params4] at hx hty
  match xs,hx with
  | [x0, x1, x2, x3, x4, x5], _ =>
   obtain ⟨sts0,rfl,hn0⟩:=Zdo (hty 0 _ _ rfl rfl)
   obtain ⟨z1,rfl⟩:=arg_int (hty 1 _ _ rfl rfl)
   obtain ⟨z2,rfl⟩:=arg_int (hty 2 _ _ rfl rfl)
   obtain ⟨z3,rfl⟩:=arg_int (hty 3 _ _ rfl rfl)
   obtain ⟨z4,rfl⟩:=arg_int (hty 4 _ _ rfl rfl)
   obtain ⟨bo5,rfl⟩:=ZjF (hty 5 _ _ rfl rfl)
   have e1:YE F4.S.args [.l (sts0.map Y3),.i z1,.i z2,.i z3,.i z4,.b bo5] 0 = [.slice false 10 (sts0.map Y3),I z1,I z2,I z3,I z4,B bo5]:=by kernel_rfl
   have e2:(g4 ((sts0.map Y3)) z1 z2 z3 z4 bo5=some true)=(F4.S.g [.l (sts0.map Y3),.i z1,.i z2,.i z3,.i z4,.b bo5]=some (cast (by kernel_rfl:Bool=ShsT (K0 F4.S.res F4.S.args)) true)):=by kernel_rfl
   have e3:YO F4.S.res (ZaE (K0 F4.S.res F4.S.args) (cast (by kernel_rfl:Bool=ShsT (K0 F4.S.res F4.S.args)) true)) 0 = .val (.bool true):=by kernel_rfl
   have h2:=Eq.mp e2 (s4 sts0 hn0 z1 z2 z3 z4 bo5)
   have h:=ok4 _ _ h2
   rw [e1,e3] at h
   exact ⟨_,h⟩
theorem ZkG:joinedFacts Try.prog 4 Try.f4 Rows.requestBusySpec Rows.requestBusyRow=true:=by
 unfold joinedFacts
 rw [ZjH,Znm,ZjT]
 change _=_
 kernel_rfl
theorem holds4:Rows.RequestBusySaid:=
 OpenClaim.holds_of_wide 4 Try.f4 rfl rfl rfl rfl rfl rfl rfl ⟨rfl,rfl,rfl,rfl,rfl⟩ rfl rfl rfl rfl rfl (by kernel_rfl) Try.func4 ZkG
  (of_decide_eq_true (by kernel_rfl)) (by unfold Func.isWrapper;first | (rw [if_pos (by decide +kernel)];kernel_rfl) | (rw [if_neg (by decide +kernel)];exact ⟨rfl,rfl⟩))
  (fun os started H enc _=>Zki os started H enc)
#print axioms holds4
end Go.Proofs.Ytmjkdbpffdampaa
