/- Functions of the program, as what they compute. -/
import Derived.Test.YtmjkdbpffdampaaGreatFZe
namespace Go.Proofs.YtmjkdbpffdampaaGreat
open Go Go.AM
set_option linter.unusedVariables false
set_option maxRecDepth 100000
noncomputable def F4:Fn:=⟨52,[0],[],[],0,[],[],Tryz.f4,[],[.c (.bool)],[(12,F12.S),(11,F11.S),(13,F13.S)]⟩
theorem ok4:F4.S.Ok Tryz.prog 4:=F4.ok Tryz.func4 (by kernel_rfl) ⟨Zpx,⟨Zoq,⟨ZnF,trivial⟩⟩⟩
noncomputable def g4:Option (Bool):=F4.S.g []
theorem Zoc:g4 =
 (Zn (Zkl 4 136)<|
 Zn ((4:Int)≤4)<|
 Zn ((4:Int)≤4)<|
 (g12).bind fun c=>
 (g11 1 5 32 (List.replicate (Int.toNat 4) [AV.val (.int .i64 0),AV.val (.int .i64 0),AV.val (.int .i64 0),AV.slice false 3 E0,AV.val (.int .i64 0),AV.val (.int .i64 0),AV.val (.int .i64 0),AV.val (.int .i64 0),AV.val (.int .i64 0),AV.val (.int .i64 0),AV.val (.bool false),AV.val (.int .i64 0),AV.val (.int .i64 0),AV.val (.int .i64 0),AV.val (.int .i64 0)]) c ((E0++[[AV.val (.int .i64 0)]])++[[AV.val (.int .i64 1)]]) 1 0 2 0 0 0 14 0 262144 0 0 0).bind fun a=>
 (g12).bind fun d=>
 (g13 d 262144 12).bind fun b=>
 if (cop .eql (d4 (d8 (d16 a))).2 0) then
 if (cop .eql (List.length (d4 (d8 (d16 a))).1:Int) 1) then
 Zq (d4 (d8 (d16 a))).1 0 [.int .i64] fun (e:Int)=>
 if (cop .eql e 2) then
 if ((cop .eql a.1 1)&&((cop .eql a.2.1 5)&&((cop .eql a.2.2.1 0)&&true))) then
 if (cop .eql (d16 a).1 32) then
 if b.2 then
 some ((cop .eql b.1 0))
 else
 some (false)
 else
 some (false)
 else
 some (false)
 else
 some (false)
 else
 some (false)
 else
 some (false)):=by kernel_rfl
noncomputable def F3:Fn:=⟨62,[14],[],[],0,[],[],Tryz.f3,[.c (.slice 1),.c (.slice 1),.c (.slice 10),.c (.int .i64),.c (.int .i64),.agg hs8,.c (.int .i64)],[.c (.bool)],[(4,F4.S),(5,F5.S),(6,F6.S),(8,F8.S),(7,F7.S),(9,F9.S),(10,F10.S)]⟩
theorem ok3:F3.S.Ok Tryz.prog 3:=F3.ok Tryz.func3 (by kernel_rfl) ⟨ok4,⟨ok5,⟨ok6,⟨ok8,⟨ok7,⟨ok9,⟨Zo3,trivial⟩⟩⟩⟩⟩⟩⟩
noncomputable def g3 (a b c:LL) (d e f h j k m n o p q r:Int):Option (Bool):=F3.S.g [.l a,.l b,.l c,.i d,.i e,.i f,.i h,.i j,.i k,.i m,.i n,.i o,.i p,.i q,.i r]
theorem ZnC (i d j:LL) (k e l m n o p q r s t u:Int):g3 i d j k e l m n o p q r s t u =
 (if (cop .gtr (List.length d:Int) 60) then
 (g4).bind fun b=>
 some (b)
 else
 (g5 i).bind fun b=>
 (g6 k 4).bind fun c=>
 (g8 j).bind fun w=>
 (g7 d w c).bind fun v=>
 (g9 b.1 b.2.1 12 b.2.2.2.1 b.2.2.2.2 c l m n o p q r s t).bind fun a=>
 if (cop .eql a.1 1) then
 (g6 u 131072).bind fun f=>
 (g6 e 30).bind fun g=>
 (g10 c (iop .add .i64 1 g) 32 v.1 (((E0++[[AV.val (.int .i64 0),AV.val (.int .i64 15),AV.val (.bool false)]])++[[AV.val (.int .i64 32768),AV.val (.int .i64 15),AV.val (.bool false)]])++[[AV.val (.int .i64 262144),AV.val (.int .i64 16),AV.val (.bool false)]]) (((E0++[[AV.val (.int .i64 0)]])++[[AV.val (.int .i64 1)]])++[[AV.val (.int .i64 2)]]) a.1 a.2.1 a.2.2.1 a.2.2.2.1 a.2.2.2.2.1 a.2.2.2.2.2.1 a.2.2.2.2.2.2.1 a.2.2.2.2.2.2.2.1 (iop .andNot .i64 f 4095) a.2.2.2.2.2.2.2.2.2.1 a.2.2.2.2.2.2.2.2.2.2.1 a.2.2.2.2.2.2.2.2.2.2.2).bind fun h=>
 if h then
 (g4).bind fun x=>
 some (x)
 else
 some (false)
 else
 (g6 e 30).bind fun f=>
 (g10 c (iop .add .i64 1 f) 32 v.1 (((E0++[[AV.val (.int .i64 0),AV.val (.int .i64 15),AV.val (.bool false)]])++[[AV.val (.int .i64 32768),AV.val (.int .i64 15),AV.val (.bool false)]])++[[AV.val (.int .i64 262144),AV.val (.int .i64 16),AV.val (.bool false)]]) (((E0++[[AV.val (.int .i64 0)]])++[[AV.val (.int .i64 1)]])++[[AV.val (.int .i64 2)]]) a.1 a.2.1 a.2.2.1 a.2.2.2.1 a.2.2.2.2.1 a.2.2.2.2.2.1 a.2.2.2.2.2.2.1 a.2.2.2.2.2.2.2.1 a.2.2.2.2.2.2.2.2.1 a.2.2.2.2.2.2.2.2.2.1 a.2.2.2.2.2.2.2.2.2.2.1 a.2.2.2.2.2.2.2.2.2.2.2).bind fun g=>
 if g then
 (g4).bind fun h=>
 some (h)
 else
 some (false)):=by kernel_rfl
end Go.Proofs.YtmjkdbpffdampaaGreat
