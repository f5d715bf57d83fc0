import Derived.Test.YtpjnmgjphfnmmaaFWg
open Option renaming some→Xa
open Bool renaming false→Xc
open List renaming length→XT
set_option linter.unusedVariables false
set_option linter.unusedSimpArgs false
set_option linter.defProp false
namespace Go.Proofs.Ytpjnmgjphfnmmaa
open Go Go.AM
set_option maxRecDepth 100000
noncomputable def F9:Fn:=⟨15,[4],[],[],0,[],[],none,[],[],Try.f9,[.c (.int .i64),.c (.int .i64)],[.c (.int .i64)],[]⟩
theorem ok9:F9.S.Ok Try.prog 9:=F9.ok Try.func9 (by kernel_rfl) trivial
noncomputable def g9 (a:Int) (b:Int):Option (Int):=F9.S.g [.i a,.i b]
theorem ZtL (b:Int) (a:Int):g9 b a =
 (ZW ((a:Int)≠0)<|
 if (cop .lss (iop .rem .i64 b a) 0) then
 Xa ((iop .add .i64 (iop .rem .i64 b a) a))
 else
 Xa ((iop .rem .i64 b a))):=by kernel_rfl
noncomputable def F15:Fn:=⟨72,[0],[],[],1,[],[],Xa 72,[],[],Try.f15,([]++List.replicate 72 .dead++[.sto]),[.c (.bool)],[(8,F8.S),(10,F10.S),(11,F11.S),(13,F13.S),(14,F14.S)]⟩
theorem Zuh:F15.S.Ok Try.prog 15:=F15.ok Try.func15 (by kernel_rfl) ⟨ok8,⟨ZtZ,⟨Zt0,⟨ZtV,⟨ZtU,trivial⟩⟩⟩⟩⟩
noncomputable def g15 (a:LL):Option (Bool×LL):=F15.S.g [.l a]
theorem ZsV (f:LL):g15 f =
 ((g8 0 f).bind fun b=>
 if (cop .neq b.2.1 0) then
 Xa (Xc,b.2.2)
 else
 ZW ((Zf .pisr b.1 0 E0 [])≠[])<|
 if (cop .eql (XT (Zf .pnn b.1 0 E0 []):Int) 0) then
 Xa (Xc,b.2.2)
 else
 (g10 b.1 1 (⟨#[97]⟩:ByteArray) 0 b.2.2).bind fun c=>
 (g11 b.1 1 c.2.2).bind fun d=>
 (g13 b.1 2 7 d.2.2.2.2.2).bind fun a=>
 if (cop .eql c.1 2) then
 if (cop .eql c.2.1 0) then
 if (!d.2.2.2.1) then
 if (cop .eql d.2.2.2.2.1 0) then
 if (cop .eql a.2.1 0) then
 if (cop .eql (XT a.1:Int) 1) then
 Jn a.1 0 [.int .i64,.int .i64,.int .i64] fun (e:Int×Int×Int)=>
 if ((cop .eql e.1 1)&&((cop .eql e.2.1 2)&&((cop .eql e.2.2 7)&&true))) then
 (g14 b.1 a.2.2).bind fun g=>
 Xa ((cop .eql (XT g.1:Int) 1),g.2)
 else
 Xa (Xc,a.2.2)
 else
 Xa (Xc,a.2.2)
 else
 Xa (Xc,a.2.2)
 else
 Xa (Xc,a.2.2)
 else
 Xa (Xc,a.2.2)
 else
 Xa (Xc,a.2.2)
 else
 Xa (Xc,a.2.2)):=by kernel_rfl
end Go.Proofs.Ytpjnmgjphfnmmaa
