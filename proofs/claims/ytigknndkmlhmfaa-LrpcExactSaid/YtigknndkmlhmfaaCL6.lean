/- LrpcExact: in every state, every entry point of lrpc answers as the reference does, and the state that it was given stays as it was. No condition beyond those of the given statement. -/
import Derived.Test.YtigknndkmlhmfaaM6
namespace Go.Proofs.Ytigknndkmlhmfaa
open Go Go.AM
set_option maxRecDepth 100000
theorem ZqC (os:Os) (started:os.Started) (H:Type) (enc:TypeId×Value→H) :
  ReturnsInHanded {} Try.checked os 6 .any (Rows.lrpcExactSpec.pre6 enc Try.prog Try.f6 Rows.lrpcExactRow.domain false) (Rows.lrpcExactSpec.post enc Try.prog Try.f6 Rows.lrpcExactRow.apart Rows.lrpcExactRow.fresh Rows.lrpcExactRow.handsOn Rows.lrpcExactRow.again):=by
 refine returnsInHanded_of_change (C:=Try.checked) ZlB started (by kernel_rfl) Try.func6
  (ChangeSpec.witness6 (enc:=enc) (C:=Try.checked) false ⟨#[],#[.agg #[.int .i64 0,.slice none 0 0],.int .i64 0,.int .i64 0,.int .i64 0,.int .i64 0,.slice none 0 0],[]⟩ 8 (by kernel_rfl) (by kernel_rfl) (by kernel_rfl) (by kernel_rfl)) ?_
 intro W base args ds gs before hval hW _ _
 refine Zfa (d:=8) laid (fun t ht=>ZtJ t ?_) (by kernel_rfl:Try.f6.resultTypes = #[4]) Try.underlying4 rfl (fun ds hd=>?_) (fun xs hx hty=>?_) W base args ds gs before hval hW
 ·have:(Try.f6.params.toList.all fun t=>Zrq.contains t)=true:=by kernel_rfl
  rw [List.all_eq_true] at this
  exact this t ht
 ·rw [Try.params6] at hd
  match ds,hd with
  | [d0, d1, d2, d3, d4, d5], _ => rfl
 ·rw [Try.params6] at hx hty
  match xs,hx with
  | [x0, x1, x2, x3, x4, x5], _ =>
   obtain ⟨n0,es0,rfl,hhw0⟩:=ZnU (hty 0 _ _ rfl rfl)
   obtain ⟨z1,rfl⟩:=arg_int (hty 1 _ _ rfl rfl)
   obtain ⟨z2,rfl⟩:=arg_int (hty 2 _ _ rfl rfl)
   obtain ⟨z3,rfl⟩:=arg_int (hty 3 _ _ rfl rfl)
   obtain ⟨z4,rfl⟩:=arg_int (hty 4 _ _ rfl rfl)
   obtain ⟨wl5,rfl,hhl5⟩:=Zmx (hty 5 _ _ rfl rfl)
   exact ⟨_,ok6 [.i n0,.l (es0.map ec),.i z1,.i z2,.i z3,.i z4,.l (ZR wl5)] true (s6 n0 es0 hhw0 z1 z2 z3 z4 wl5)⟩
theorem Zqs:joinedFacts Try.prog 6 Try.f6 Rows.lrpcExactSpec Rows.lrpcExactRow=true:=by
 unfold joinedFacts
 rw [Zsf,ZtE,ZsY]
 change _=_
 kernel_rfl
theorem holds6:Rows.LrpcExactSaid:=
 OpenClaim.holds_of_wide 6 Try.f6 rfl rfl rfl rfl rfl rfl rfl ⟨rfl,rfl,rfl,rfl,rfl⟩ rfl rfl rfl rfl rfl (by kernel_rfl) Try.func6 Zqs
  (of_decide_eq_true (by kernel_rfl)) (by unfold Func.isWrapper;first | (rw [if_pos (by decide +kernel)];kernel_rfl) | (rw [if_neg (by decide +kernel)];exact ⟨rfl,rfl⟩))
  (fun os started H enc _=>ZqC os started H enc)
#print axioms holds6
end Go.Proofs.Ytigknndkmlhmfaa
