import Derived.Test.YtjldbnbdcmfbmaaGreatF8d
open Bool renaming false→Xc
set_option linter.unusedVariables false
set_option linter.unusedSimpArgs false
set_option linter.defProp false
namespace Go.Proofs.YtjldbnbdcmfbmaaGreat
open Go Go.AM
set_option maxRecDepth 100000
noncomputable def F9:Fn:=⟨38,[0],[],[],0,[],[],Tryz.f9,[],[.c (.bool)],[(14,F14.S),(17,F17.S),(19,F19.S),(12,F12.S)]⟩
def ok9:F9.S.Ok Tryz.prog 9:=F9.ok Tryz.func9 ⟨ZIB,⟨ZIO,⟨ZF7,⟨ZJq,trivial⟩⟩⟩⟩
noncomputable def g9:Option (Bool):=F9.S.g []
def ZHX:g9 =
 ((g14 3 1 0 2 0 1 0 0 5 0 0 Xc 0 0 0 0 0 0 0 0 0 0 0 0 0 0 0 0 0 0 0 0 E0 0 0 0 0 0 0 Xc E0 E0 E0 E0 0 0 E0 E0 E0 E0 E0 E0 E0 E0 0 0 E0 E0 E0 E0 E0 E0 E0 E0 Xc 0 E0 E0 E0 E0 E0 E0 E0 E0).bind fun b=>
 (g17 b.1).bind fun a=>
 if P0 .eql b.2 0 then
 if (P0 .eql (df (dk a)) 0) then
 Zy (Zeg b.1)<|
 if (ByteArray.toList (bytesOf b.1) == ByteArray.toList (⟨#[3,1,0,2,1,0,5,0]⟩:ByteArray)) then
 (g19 a.1 a.2.1 a.2.2.1 a.2.2.2.1 (d4 a).1 (d4 a).2.1 (d6 a).1 (d6 a).2.1 (d8 a).1 (d8 a).2.1 (df a).1 (df a).2.1 (dg a).1 (dg a).2.1 (dh a).1 (dh a).2.1 (P2 a).1 (P2 a).2.1 (d2 (P2 a)).1 (d2 (P2 a)).2.1 (d4 (P2 a)).1 (d4 (P2 a)).2.1 (d6 (P2 a)).1 (d6 (P2 a)).2.1 (d8 (P2 a)).1 (d8 (P2 a)).2.1 (df (P2 a)).1 (df (P2 a)).2.1 (dg (P2 a)).1 (dg (P2 a)).2.1 (dh (P2 a)).1 (dh (P2 a)).2.1 (di a).1 (di a).2.1 (d2 (di a)).1 (d2 (di a)).2.1 (d4 (di a)).1 (d4 (di a)).2.1 (d6 (di a)).1 (d6 (di a)).2.1 (d8 (di a)).1 (d8 (di a)).2.1 (df (di a)).1 (df (di a)).2.1 (dg (di a)).1 (dg (di a)).2.1 (dh (di a)).1 (dh (di a)).2.1 (dj a).1 (dj a).2.1 (d2 (dj a)).1 (d2 (dj a)).2.1 (d4 (dj a)).1 (d4 (dj a)).2.1 (d6 (dj a)).1 (d6 (dj a)).2.1 (d8 (dj a)).1 (d8 (dj a)).2.1 (df (dj a)).1 (df (dj a)).2.1 (dg (dj a)).1 (dg (dj a)).2.1 (dh (dj a)).1 (dh (dj a)).2.1 (dk a).1 (dk a).2.1 (d2 (dk a)).1 (d2 (dk a)).2.1 (d4 (dk a)).1 (d4 (dk a)).2.1 (d6 (dk a)).1 (d6 (dk a)).2.1 (d8 (dk a)).1 (d8 (dk a)).2.1 3 1 0 2 0 1 0 0 5 0 0 Xc 0 0 0 0 0 0 0 0 0 0 0 0 0 0 0 0 0 0 0 0 E0 0 0 0 0 0 0 Xc E0 E0 E0 E0 0 0 E0 E0 E0 E0 E0 E0 E0 E0 0 0 E0 E0 E0 E0 E0 E0 E0 E0 Xc 0 E0 E0 E0 E0 E0 E0 E0 E0).bind fun c=>
 if c then
 (g12 3 1 0 2 0 1 0 0 5 0 0 Xc 0 0 0 0 0 0 0 0 0 0 0 0 0 0 0 0 0 0 0 0 E0 0 0 0 0 0 0 Xc E0 E0 E0 E0 0 0 E0 E0 E0 E0 E0 E0 E0 E0 0 0 E0 E0 E0 E0 E0 E0 E0 E0 Xc 0 E0 E0 E0 E0 E0 E0 E0 E0).bind fun d=>
 some (d)
 else
 some (Xc)
 else
 some (Xc)
 else
 some (Xc)
 else
 some (Xc)):=by kernel_rfl
end Go.Proofs.YtjldbnbdcmfbmaaGreat
