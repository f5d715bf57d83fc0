/- Functions of the program, as what they compute. -/
import Derived.Test.YtjldbnbdcmfbmaaGreatF8d
namespace Go.Proofs.YtjldbnbdcmfbmaaGreat
open Go Go.AM
set_option linter.unusedVariables false
set_option maxRecDepth 100000
noncomputable def F9:Fn:=⟨38,[0],[],[],0,[],[],Tryz.f9,[],[.c (.bool)],[(14,F14.S),(17,F17.S),(19,F19.S),(12,F12.S)]⟩
theorem ok9:F9.S.Ok Tryz.prog 9:=F9.ok Tryz.func9 (by kernel_rfl) ⟨ZyR,⟨ZAn,⟨ZDm,⟨ZDn,trivial⟩⟩⟩⟩
noncomputable def g9:Option (Bool):=F9.S.g []
theorem ZAF:g9 =
 ((g14 3 1 0 2 0 1 0 0 5 0 0 false 0 0 0 0 0 0 0 0 0 0 0 0 0 0 0 0 0 0 0 0 E0 0 0 0 0 0 0 false E0 E0 E0 E0 0 0 E0 E0 E0 E0 E0 E0 E0 E0 0 0 E0 E0 E0 E0 E0 E0 E0 E0 false 0 E0 E0 E0 E0 E0 E0 E0 E0).bind fun b=>
 (g17 b.1).bind fun a=>
 if (cop .eql b.2 0) then
 if (cop .eql (d2 (d8 (d16 (d16 (d16 (d16 a)))))) 0) then
 Zz (Zg5 b.1)<|
 if (ByteArray.toList (bytesOf b.1) == ByteArray.toList (⟨#[3,1,0,2,1,0,5,0]⟩:ByteArray)) then
 (g19 a.1 a.2.1 a.2.2.1 a.2.2.2.1 a.2.2.2.2.1 a.2.2.2.2.2.1 a.2.2.2.2.2.2.1 a.2.2.2.2.2.2.2.1 a.2.2.2.2.2.2.2.2.1 a.2.2.2.2.2.2.2.2.2.1 a.2.2.2.2.2.2.2.2.2.2.1 a.2.2.2.2.2.2.2.2.2.2.2.1 (d4 (d8 a)).1 (d4 (d8 a)).2.1 (d2 (d4 (d8 a))).1 (d2 (d4 (d8 a))).2.1 (d16 a).1 (d16 a).2.1 (d2 (d16 a)).1 (d2 (d16 a)).2.1 (d4 (d16 a)).1 (d4 (d16 a)).2.1 (d2 (d4 (d16 a))).1 (d2 (d4 (d16 a))).2.1 (d8 (d16 a)).1 (d8 (d16 a)).2.1 (d2 (d8 (d16 a))).1 (d2 (d8 (d16 a))).2.1 (d4 (d8 (d16 a))).1 (d4 (d8 (d16 a))).2.1 (d2 (d4 (d8 (d16 a)))).1 (d2 (d4 (d8 (d16 a)))).2.1 (d16 (d16 a)).1 (d16 (d16 a)).2.1 (d2 (d16 (d16 a))).1 (d2 (d16 (d16 a))).2.1 (d4 (d16 (d16 a))).1 (d4 (d16 (d16 a))).2.1 (d2 (d4 (d16 (d16 a)))).1 (d2 (d4 (d16 (d16 a)))).2.1 (d8 (d16 (d16 a))).1 (d8 (d16 (d16 a))).2.1 (d2 (d8 (d16 (d16 a)))).1 (d2 (d8 (d16 (d16 a)))).2.1 (d4 (d8 (d16 (d16 a)))).1 (d4 (d8 (d16 (d16 a)))).2.1 (d2 (d4 (d8 (d16 (d16 a))))).1 (d2 (d4 (d8 (d16 (d16 a))))).2.1 (d16 (d16 (d16 a))).1 (d16 (d16 (d16 a))).2.1 (d2 (d16 (d16 (d16 a)))).1 (d2 (d16 (d16 (d16 a)))).2.1 (d4 (d16 (d16 (d16 a)))).1 (d4 (d16 (d16 (d16 a)))).2.1 (d2 (d4 (d16 (d16 (d16 a))))).1 (d2 (d4 (d16 (d16 (d16 a))))).2.1 (d8 (d16 (d16 (d16 a)))).1 (d8 (d16 (d16 (d16 a)))).2.1 (d2 (d8 (d16 (d16 (d16 a))))).1 (d2 (d8 (d16 (d16 (d16 a))))).2.1 (d4 (d8 (d16 (d16 (d16 a))))).1 (d4 (d8 (d16 (d16 (d16 a))))).2.1 (d2 (d4 (d8 (d16 (d16 (d16 a)))))).1 (d2 (d4 (d8 (d16 (d16 (d16 a)))))).2.1 (d16 (d16 (d16 (d16 a)))).1 (d16 (d16 (d16 (d16 a)))).2.1 (d2 (d16 (d16 (d16 (d16 a))))).1 (d2 (d16 (d16 (d16 (d16 a))))).2.1 (d4 (d16 (d16 (d16 (d16 a))))).1 (d4 (d16 (d16 (d16 (d16 a))))).2.1 (d2 (d4 (d16 (d16 (d16 (d16 a)))))).1 (d2 (d4 (d16 (d16 (d16 (d16 a)))))).2.1 (d8 (d16 (d16 (d16 (d16 a))))).1 (d8 (d16 (d16 (d16 (d16 a))))).2.1 3 1 0 2 0 1 0 0 5 0 0 false 0 0 0 0 0 0 0 0 0 0 0 0 0 0 0 0 0 0 0 0 E0 0 0 0 0 0 0 false E0 E0 E0 E0 0 0 E0 E0 E0 E0 E0 E0 E0 E0 0 0 E0 E0 E0 E0 E0 E0 E0 E0 false 0 E0 E0 E0 E0 E0 E0 E0 E0).bind fun c=>
 if c then
 (g12 3 1 0 2 0 1 0 0 5 0 0 false 0 0 0 0 0 0 0 0 0 0 0 0 0 0 0 0 0 0 0 0 E0 0 0 0 0 0 0 false E0 E0 E0 E0 0 0 E0 E0 E0 E0 E0 E0 E0 E0 0 0 E0 E0 E0 E0 E0 E0 E0 E0 false 0 E0 E0 E0 E0 E0 E0 E0 E0).bind fun d=>
 some (d)
 else
 some (false)
 else
 some (false)
 else
 some (false)
 else
 some (false)):=by kernel_rfl
noncomputable def F5:Fn:=⟨45,[6],[],[],0,[],[],Tryz.f5,[.c (.int .i64),.c (.slice 1),.c (.slice 10)],[.c (.bool)],[(9,F9.S),(11,F11.S),(10,F10.S),(14,F14.S),(17,F17.S),(19,F19.S)]⟩
theorem ok5:F5.S.Ok Tryz.prog 5:=F5.ok Tryz.func5 (by kernel_rfl) ⟨ok9,⟨ZDi,⟨ZCJ,⟨ZyR,⟨ZAn,⟨ZDm,trivial⟩⟩⟩⟩⟩⟩
noncomputable def g5 (a:Int) (b c:LL):Option (Bool):=F5.S.g [.i a,.l b,.l c]
theorem ZBG (e:Int) (c f:LL):g5 e c f =
 (if (cop .gtr (List.length c:Int) 100) then
 (g9).bind fun d=>
 some (d)
 else
 (g11 f).bind fun d=>
 (g10 e c d).bind fun a=>
 (g14 a.1 a.2.1 a.2.2.1 a.2.2.2.1 a.2.2.2.2.1 a.2.2.2.2.2.1 a.2.2.2.2.2.2.1 a.2.2.2.2.2.2.2.1 a.2.2.2.2.2.2.2.2.1 a.2.2.2.2.2.2.2.2.2.1 a.2.2.2.2.2.2.2.2.2.2.1 a.2.2.2.2.2.2.2.2.2.2.2.1 (d4 (d8 a)).1 (d4 (d8 a)).2.1 (d2 (d4 (d8 a))).1 (d2 (d4 (d8 a))).2.1 (d16 a).1 (d16 a).2.1 (d2 (d16 a)).1 (d2 (d16 a)).2.1 (d4 (d16 a)).1 (d4 (d16 a)).2.1 (d2 (d4 (d16 a))).1 (d2 (d4 (d16 a))).2.1 (d8 (d16 a)).1 (d8 (d16 a)).2.1 (d2 (d8 (d16 a))).1 (d2 (d8 (d16 a))).2.1 (d4 (d8 (d16 a))).1 (d4 (d8 (d16 a))).2.1 (d2 (d4 (d8 (d16 a)))).1 (d2 (d4 (d8 (d16 a)))).2.1 (d16 (d16 a)).1 (d16 (d16 a)).2.1 (d2 (d16 (d16 a))).1 (d2 (d16 (d16 a))).2.1 (d4 (d16 (d16 a))).1 (d4 (d16 (d16 a))).2.1 (d2 (d4 (d16 (d16 a)))).1 (d2 (d4 (d16 (d16 a)))).2.1 (d8 (d16 (d16 a))).1 (d8 (d16 (d16 a))).2.1 (d2 (d8 (d16 (d16 a)))).1 (d2 (d8 (d16 (d16 a)))).2.1 (d4 (d8 (d16 (d16 a)))).1 (d4 (d8 (d16 (d16 a)))).2.1 (d2 (d4 (d8 (d16 (d16 a))))).1 (d2 (d4 (d8 (d16 (d16 a))))).2.1 (d16 (d16 (d16 a))).1 (d16 (d16 (d16 a))).2.1 (d2 (d16 (d16 (d16 a)))).1 (d2 (d16 (d16 (d16 a)))).2.1 (d4 (d16 (d16 (d16 a)))).1 (d4 (d16 (d16 (d16 a)))).2.1 (d2 (d4 (d16 (d16 (d16 a))))).1 (d2 (d4 (d16 (d16 (d16 a))))).2.1 (d8 (d16 (d16 (d16 a)))).1 (d8 (d16 (d16 (d16 a)))).2.1 (d2 (d8 (d16 (d16 (d16 a))))).1 (d2 (d8 (d16 (d16 (d16 a))))).2.1 (d4 (d8 (d16 (d16 (d16 a))))).1 (d4 (d8 (d16 (d16 (d16 a))))).2.1 (d2 (d4 (d8 (d16 (d16 (d16 a)))))).1 (d2 (d4 (d8 (d16 (d16 (d16 a)))))).2.1 (d16 (d16 (d16 (d16 a)))).1 (d16 (d16 (d16 (d16 a)))).2.1 (d2 (d16 (d16 (d16 (d16 a))))).1 (d2 (d16 (d16 (d16 (d16 a))))).2.1 (d4 (d16 (d16 (d16 (d16 a))))).1 (d4 (d16 (d16 (d16 (d16 a))))).2.1 (d2 (d4 (d16 (d16 (d16 (d16 a)))))).1 (d2 (d4 (d16 (d16 (d16 (d16 a)))))).2.1 (d8 (d16 (d16 (d16 (d16 a))))).1 (d8 (d16 (d16 (d16 (d16 a))))).2).bind fun g=>
 (g17 g.1).bind fun b=>
 if (cop .eql g.2 0) then
 if (cop .eql (d2 (d8 (d16 (d16 (d16 (d16 b)))))) 0) then
 (g19 b.1 b.2.1 b.2.2.1 b.2.2.2.1 b.2.2.2.2.1 b.2.2.2.2.2.1 b.2.2.2.2.2.2.1 b.2.2.2.2.2.2.2.1 b.2.2.2.2.2.2.2.2.1 b.2.2.2.2.2.2.2.2.2.1 b.2.2.2.2.2.2.2.2.2.2.1 b.2.2.2.2.2.2.2.2.2.2.2.1 (d4 (d8 b)).1 (d4 (d8 b)).2.1 (d2 (d4 (d8 b))).1 (d2 (d4 (d8 b))).2.1 (d16 b).1 (d16 b).2.1 (d2 (d16 b)).1 (d2 (d16 b)).2.1 (d4 (d16 b)).1 (d4 (d16 b)).2.1 (d2 (d4 (d16 b))).1 (d2 (d4 (d16 b))).2.1 (d8 (d16 b)).1 (d8 (d16 b)).2.1 (d2 (d8 (d16 b))).1 (d2 (d8 (d16 b))).2.1 (d4 (d8 (d16 b))).1 (d4 (d8 (d16 b))).2.1 (d2 (d4 (d8 (d16 b)))).1 (d2 (d4 (d8 (d16 b)))).2.1 (d16 (d16 b)).1 (d16 (d16 b)).2.1 (d2 (d16 (d16 b))).1 (d2 (d16 (d16 b))).2.1 (d4 (d16 (d16 b))).1 (d4 (d16 (d16 b))).2.1 (d2 (d4 (d16 (d16 b)))).1 (d2 (d4 (d16 (d16 b)))).2.1 (d8 (d16 (d16 b))).1 (d8 (d16 (d16 b))).2.1 (d2 (d8 (d16 (d16 b)))).1 (d2 (d8 (d16 (d16 b)))).2.1 (d4 (d8 (d16 (d16 b)))).1 (d4 (d8 (d16 (d16 b)))).2.1 (d2 (d4 (d8 (d16 (d16 b))))).1 (d2 (d4 (d8 (d16 (d16 b))))).2.1 (d16 (d16 (d16 b))).1 (d16 (d16 (d16 b))).2.1 (d2 (d16 (d16 (d16 b)))).1 (d2 (d16 (d16 (d16 b)))).2.1 (d4 (d16 (d16 (d16 b)))).1 (d4 (d16 (d16 (d16 b)))).2.1 (d2 (d4 (d16 (d16 (d16 b))))).1 (d2 (d4 (d16 (d16 (d16 b))))).2.1 (d8 (d16 (d16 (d16 b)))).1 (d8 (d16 (d16 (d16 b)))).2.1 (d2 (d8 (d16 (d16 (d16 b))))).1 (d2 (d8 (d16 (d16 (d16 b))))).2.1 (d4 (d8 (d16 (d16 (d16 b))))).1 (d4 (d8 (d16 (d16 (d16 b))))).2.1 (d2 (d4 (d8 (d16 (d16 (d16 b)))))).1 (d2 (d4 (d8 (d16 (d16 (d16 b)))))).2.1 (d16 (d16 (d16 (d16 b)))).1 (d16 (d16 (d16 (d16 b)))).2.1 (d2 (d16 (d16 (d16 (d16 b))))).1 (d2 (d16 (d16 (d16 (d16 b))))).2.1 (d4 (d16 (d16 (d16 (d16 b))))).1 (d4 (d16 (d16 (d16 (d16 b))))).2.1 (d2 (d4 (d16 (d16 (d16 (d16 b)))))).1 (d2 (d4 (d16 (d16 (d16 (d16 b)))))).2.1 (d8 (d16 (d16 (d16 (d16 b))))).1 (d8 (d16 (d16 (d16 (d16 b))))).2.1 a.1 a.2.1 a.2.2.1 a.2.2.2.1 a.2.2.2.2.1 a.2.2.2.2.2.1 a.2.2.2.2.2.2.1 a.2.2.2.2.2.2.2.1 a.2.2.2.2.2.2.2.2.1 a.2.2.2.2.2.2.2.2.2.1 a.2.2.2.2.2.2.2.2.2.2.1 a.2.2.2.2.2.2.2.2.2.2.2.1 (d4 (d8 a)).1 (d4 (d8 a)).2.1 (d2 (d4 (d8 a))).1 (d2 (d4 (d8 a))).2.1 (d16 a).1 (d16 a).2.1 (d2 (d16 a)).1 (d2 (d16 a)).2.1 (d4 (d16 a)).1 (d4 (d16 a)).2.1 (d2 (d4 (d16 a))).1 (d2 (d4 (d16 a))).2.1 (d8 (d16 a)).1 (d8 (d16 a)).2.1 (d2 (d8 (d16 a))).1 (d2 (d8 (d16 a))).2.1 (d4 (d8 (d16 a))).1 (d4 (d8 (d16 a))).2.1 (d2 (d4 (d8 (d16 a)))).1 (d2 (d4 (d8 (d16 a)))).2.1 (d16 (d16 a)).1 (d16 (d16 a)).2.1 (d2 (d16 (d16 a))).1 (d2 (d16 (d16 a))).2.1 (d4 (d16 (d16 a))).1 (d4 (d16 (d16 a))).2.1 (d2 (d4 (d16 (d16 a)))).1 (d2 (d4 (d16 (d16 a)))).2.1 (d8 (d16 (d16 a))).1 (d8 (d16 (d16 a))).2.1 (d2 (d8 (d16 (d16 a)))).1 (d2 (d8 (d16 (d16 a)))).2.1 (d4 (d8 (d16 (d16 a)))).1 (d4 (d8 (d16 (d16 a)))).2.1 (d2 (d4 (d8 (d16 (d16 a))))).1 (d2 (d4 (d8 (d16 (d16 a))))).2.1 (d16 (d16 (d16 a))).1 (d16 (d16 (d16 a))).2.1 (d2 (d16 (d16 (d16 a)))).1 (d2 (d16 (d16 (d16 a)))).2.1 (d4 (d16 (d16 (d16 a)))).1 (d4 (d16 (d16 (d16 a)))).2.1 (d2 (d4 (d16 (d16 (d16 a))))).1 (d2 (d4 (d16 (d16 (d16 a))))).2.1 (d8 (d16 (d16 (d16 a)))).1 (d8 (d16 (d16 (d16 a)))).2.1 (d2 (d8 (d16 (d16 (d16 a))))).1 (d2 (d8 (d16 (d16 (d16 a))))).2.1 (d4 (d8 (d16 (d16 (d16 a))))).1 (d4 (d8 (d16 (d16 (d16 a))))).2.1 (d2 (d4 (d8 (d16 (d16 (d16 a)))))).1 (d2 (d4 (d8 (d16 (d16 (d16 a)))))).2.1 (d16 (d16 (d16 (d16 a)))).1 (d16 (d16 (d16 (d16 a)))).2.1 (d2 (d16 (d16 (d16 (d16 a))))).1 (d2 (d16 (d16 (d16 (d16 a))))).2.1 (d4 (d16 (d16 (d16 (d16 a))))).1 (d4 (d16 (d16 (d16 (d16 a))))).2.1 (d2 (d4 (d16 (d16 (d16 (d16 a)))))).1 (d2 (d4 (d16 (d16 (d16 (d16 a)))))).2.1 (d8 (d16 (d16 (d16 (d16 a))))).1 (d8 (d16 (d16 (d16 (d16 a))))).2).bind fun h=>
 if h then
 (g9).bind fun i=>
 some (i)
 else
 some (false)
 else
 some (false)
 else
 some (false)):=by kernel_rfl
noncomputable def F6:Fn:=⟨75,[10],[],[],0,[],[],Tryz.f6,[.c (.int .i64),.c (.slice 1),.c (.slice 10),.c (.int .i64),.c (.int .u8)],[.c (.bool)],[(9,F9.S),(11,F11.S),(10,F10.S),(14,F14.S),(13,F13.S),(17,F17.S)]⟩
theorem ok6:F6.S.Ok Tryz.prog 6:=F6.ok Tryz.func6 (by kernel_rfl) ⟨ok9,⟨ZDi,⟨ZCJ,⟨ZyR,⟨Zox,⟨ZAn,trivial⟩⟩⟩⟩⟩⟩
noncomputable def g6 (a:Int) (b c:LL) (d e:Int):Option (Bool):=F6.S.g [.i a,.l b,.l c,.i d,.i e]
theorem ZA8 (g:Int) (c h:LL) (i d:Int):g6 g c h i d =
 (if (cop .gtr (List.length c:Int) 100) then
 (g9).bind fun e=>
 some (e)
 else
 (g11 h).bind fun e=>
 (g10 g c e).bind fun a=>
 (g14 a.1 a.2.1 a.2.2.1 a.2.2.2.1 a.2.2.2.2.1 a.2.2.2.2.2.1 a.2.2.2.2.2.2.1 a.2.2.2.2.2.2.2.1 a.2.2.2.2.2.2.2.2.1 a.2.2.2.2.2.2.2.2.2.1 a.2.2.2.2.2.2.2.2.2.2.1 a.2.2.2.2.2.2.2.2.2.2.2.1 (d4 (d8 a)).1 (d4 (d8 a)).2.1 (d2 (d4 (d8 a))).1 (d2 (d4 (d8 a))).2.1 (d16 a).1 (d16 a).2.1 (d2 (d16 a)).1 (d2 (d16 a)).2.1 (d4 (d16 a)).1 (d4 (d16 a)).2.1 (d2 (d4 (d16 a))).1 (d2 (d4 (d16 a))).2.1 (d8 (d16 a)).1 (d8 (d16 a)).2.1 (d2 (d8 (d16 a))).1 (d2 (d8 (d16 a))).2.1 (d4 (d8 (d16 a))).1 (d4 (d8 (d16 a))).2.1 (d2 (d4 (d8 (d16 a)))).1 (d2 (d4 (d8 (d16 a)))).2.1 (d16 (d16 a)).1 (d16 (d16 a)).2.1 (d2 (d16 (d16 a))).1 (d2 (d16 (d16 a))).2.1 (d4 (d16 (d16 a))).1 (d4 (d16 (d16 a))).2.1 (d2 (d4 (d16 (d16 a)))).1 (d2 (d4 (d16 (d16 a)))).2.1 (d8 (d16 (d16 a))).1 (d8 (d16 (d16 a))).2.1 (d2 (d8 (d16 (d16 a)))).1 (d2 (d8 (d16 (d16 a)))).2.1 (d4 (d8 (d16 (d16 a)))).1 (d4 (d8 (d16 (d16 a)))).2.1 (d2 (d4 (d8 (d16 (d16 a))))).1 (d2 (d4 (d8 (d16 (d16 a))))).2.1 (d16 (d16 (d16 a))).1 (d16 (d16 (d16 a))).2.1 (d2 (d16 (d16 (d16 a)))).1 (d2 (d16 (d16 (d16 a)))).2.1 (d4 (d16 (d16 (d16 a)))).1 (d4 (d16 (d16 (d16 a)))).2.1 (d2 (d4 (d16 (d16 (d16 a))))).1 (d2 (d4 (d16 (d16 (d16 a))))).2.1 (d8 (d16 (d16 (d16 a)))).1 (d8 (d16 (d16 (d16 a)))).2.1 (d2 (d8 (d16 (d16 (d16 a))))).1 (d2 (d8 (d16 (d16 (d16 a))))).2.1 (d4 (d8 (d16 (d16 (d16 a))))).1 (d4 (d8 (d16 (d16 (d16 a))))).2.1 (d2 (d4 (d8 (d16 (d16 (d16 a)))))).1 (d2 (d4 (d8 (d16 (d16 (d16 a)))))).2.1 (d16 (d16 (d16 (d16 a)))).1 (d16 (d16 (d16 (d16 a)))).2.1 (d2 (d16 (d16 (d16 (d16 a))))).1 (d2 (d16 (d16 (d16 (d16 a))))).2.1 (d4 (d16 (d16 (d16 (d16 a))))).1 (d4 (d16 (d16 (d16 (d16 a))))).2.1 (d2 (d4 (d16 (d16 (d16 (d16 a)))))).1 (d2 (d4 (d16 (d16 (d16 (d16 a)))))).2.1 (d8 (d16 (d16 (d16 (d16 a))))).1 (d8 (d16 (d16 (d16 (d16 a))))).2).bind fun b=>
 if (cop .neq b.2 0) then
 some (false)
 else
 if (cop .eql (List.length b.1:Int) 0) then
 some (false)
 else
 (g13 i (List.length b.1:Int)).bind fun f=>
 Zz ((0:Int)≤f)<|
 Zz ((f:Int)≤(List.length b.1:Int))<|
 (g17 (List.take (Int.toNat f) b.1)).bind fun j=>
 Zz (Je E0 b.1 1)<|
 Zz (Je b.1 (E0++[[AV.val (.int .u8 d)]]) 1)<|
 (g17 (b.1++(E0++[[AV.val (.int .u8 d)]]))).bind fun k=>
 if (cop .eql (d2 (d8 (d16 (d16 (d16 (d16 j)))))) 14) then
 if (cop .eql (d2 (d8 (d16 (d16 (d16 (d16 k)))))) 14) then
 if (cop .eql j.1 0) then
 if (cop .eql k.1 0) then
 (g9).bind fun l=>
 some (l)
 else
 some (false)
 else
 some (false)
 else
 some (false)
 else
 some (false)):=by kernel_rfl
end Go.Proofs.YtjldbnbdcmfbmaaGreat
