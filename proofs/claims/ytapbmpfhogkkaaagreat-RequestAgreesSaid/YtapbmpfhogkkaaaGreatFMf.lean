/- Functions of the program, as what they compute. -/
import Derived.Test.YtapbmpfhogkkaaaGreatFMe
namespace Go.Proofs.YtapbmpfhogkkaaaGreat
open Go Go.AM
set_option linter.unusedVariables false
set_option maxRecDepth 100000
noncomputable def F12:Fn:=⟨52,[0],[],[],0,[],[],Tryz.f12,[],[.c (.bool)],[(31,F31.S),(10,F10.S),(30,F30.S)]⟩
theorem Zqq:F12.S.Ok Tryz.prog 12:=F12.ok Tryz.func12 (by kernel_rfl) ⟨Zp7,⟨ZpH,⟨ZpA,trivial⟩⟩⟩
noncomputable def g12:Option (Bool):=F12.S.g []
theorem ZnH:g12 =
 (Zi (ZaB 4 136)<|
 Zi ((4:Int)≤4)<|
 Zi ((4:Int)≤4)<|
 (g31).bind fun c=>
 (g10 1 5 32 (List.replicate (Int.toNat 4) [AV.val (.int .i64 0),AV.val (.int .i64 0),AV.val (.int .i64 0),AV.slice false 3 E0,AV.val (.int .i64 0),AV.val (.int .i64 0),AV.val (.int .i64 0),AV.val (.int .i64 0),AV.val (.int .i64 0),AV.val (.int .i64 0),AV.val (.bool false),AV.val (.int .i64 0),AV.val (.int .i64 0),AV.val (.int .i64 0),AV.val (.int .i64 0)]) c ((E0++[[AV.val (.int .i64 0)]])++[[AV.val (.int .i64 1)]]) 1 0 2 0 0 0 14 0 262144 0 0 0).bind fun a=>
 (g31).bind fun d=>
 (g30 d 262144 12).bind fun b=>
 if (cop .eql (d4 (d8 (d16 a))).2 0) then
 if (cop .eql (List.length (d4 (d8 (d16 a))).1:Int) 1) then
 Zj (d4 (d8 (d16 a))).1 0 [.int .i64] fun (e:Int)=>
 if (cop .eql e 2) then
 if ((cop .eql a.1 1)&&((cop .eql a.2.1 5)&&((cop .eql a.2.2.1 0)&&true))) then
 if (cop .eql (d16 a).1 32) then
 if b.2 then
 some ((cop .eql b.1 0))
 else
 some (false)
 else
 some (false)
 else
 some (false)
 else
 some (false)
 else
 some (false)
 else
 some (false)):=by kernel_rfl
end Go.Proofs.YtapbmpfhogkkaaaGreat
