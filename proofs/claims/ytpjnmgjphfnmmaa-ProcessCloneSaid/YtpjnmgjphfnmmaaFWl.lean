import Derived.Test.YtpjnmgjphfnmmaaFWh
import Derived.Test.YtpjnmgjphfnmmaaM6
open Option renaming some→Xa
open Bool renaming false→Xe
open List renaming length→Xn
set_option linter.unusedVariables false
set_option linter.unusedSimpArgs false
set_option linter.defProp false
namespace Go.Proofs.Ytpjnmgjphfnmmaa
open Go Go.AM
set_option maxRecDepth 100000
noncomputable def F24.S:Fun:=Znv
theorem ZxD:F24.S.Ok Try.prog 24:=ZmA
noncomputable def g24 (a b:LL):Option (LL×LL):=F24.S.g [.l a,.l b]
noncomputable def F48:Fn:=⟨26,[4],[(4,[(0,.c (.slice 1)),(1,.c (.slice 1)),(5,.c (.int .i64))])],[],0,[],[],none,[],[],Try.f48,[.c (.slice 1),.c (.slice 1)],[.c (.bool)],[]⟩
theorem Zxn:F48.S.Ok Try.prog 48:=F48.ok Try.func48 (by kernel_rfl) trivial
noncomputable def g48 (a:LL) (b:LL):Option (Bool):=F48.S.g [.l a,.l b]
noncomputable def Zrm (k:Nat) (a:LL) (b:LL) (c:Int):Option (Bool):=F48.lp [1,0] 0 r0 k [.l a,.l b,.i c]
theorem Zkh (k:Nat) (b:LL) (c:LL) (a:Int):Zrm (k+1) b c a =
 (if (cop .lss a (Xn b:Int)) then
 Zk b a [.int .i64] fun (d:Int)=>
 Zk c a [.int .i64] fun (e:Int)=>
 if (cop .neq d e) then
 Xa (Xe)
 else
 Zrm k b c (iop .add .i64 a 1)
 else
 Xa (true)):=by kernel_rfl
theorem Zut (a:LL) (b:LL):g48 a b =
 (if (cop .neq (Xn a:Int) (Xn b:Int)) then
 Xa (Xe)
 else
 Zrm Jl a b 0):=by kernel_rfl
noncomputable def F25:Fn:=⟨75,[4],[(4,[(0,.c (.slice 7)),(1,.c (.slice 7)),(5,.c (.int .i64))])],[],0,[],[],none,[],[],Try.f25,[.c (.slice 7),.c (.slice 7)],[.c (.bool)],[(48,F48.S)]⟩
theorem Zxq:F25.S.Ok Try.prog 25:=F25.ok Try.func25 (by kernel_rfl) ⟨Zxn,trivial⟩
noncomputable def g25 (a:LL) (b:LL):Option (Bool):=F25.S.g [.l a,.l b]
noncomputable def ZrD (k:Nat) (a:LL) (b:LL) (c:Int):Option (Bool):=F25.lp [1,0] 0 r0 k [.l a,.l b,.i c]
theorem Zkd (k:Nat) (d:LL) (e:LL) (c:Int):ZrD (k+1) d e c =
 (if (cop .lss c (Xn d:Int)) then
 Zk d c [.int .i64,.int .i64,.str,.slice 1,.bool,.int .i64,.bool] fun (a:Int×Int×ByteArray×LL×Bool×Int×Bool)=>
 Zk e c [.int .i64,.int .i64,.str,.slice 1,.bool,.int .i64,.bool] fun (b:Int×Int×ByteArray×LL×Bool×Int×Bool)=>
 if (cop .neq a.1 b.1) then
 Xa (Xe)
 else
 if (cop .neq a.2.1 b.2.1) then
 Xa (Xe)
 else
 if (!(ByteArray.toList a.2.2.1 == ByteArray.toList b.2.2.1)) then
 Xa (Xe)
 else
 if (!(a.2.2.2.2.1 == b.2.2.2.2.1)) then
 Xa (Xe)
 else
 if (cop .neq a.2.2.2.2.2.1 b.2.2.2.2.2.1) then
 Xa (Xe)
 else
 if (!(a.2.2.2.2.2.2 == b.2.2.2.2.2.2)) then
 Xa (Xe)
 else
 (g48 a.2.2.2.1 b.2.2.2.1).bind fun f=>
 if (!f) then
 Xa (Xe)
 else
 ZrD k d e (iop .add .i64 c 1)
 else
 Xa (true)):=by kernel_rfl
theorem Zu4 (a:LL) (b:LL):g25 a b =
 (if (cop .neq (Xn a:Int) (Xn b:Int)) then
 Xa (Xe)
 else
 ZrD Jl a b 0):=by kernel_rfl
noncomputable def F7:Fn:=⟨78,[6],[(3,[(1,.c (.slice 6)),(2,.c (.slice 6)),(7,.c (.cel)),(8,.c (.cel)),(9,.c (.bool)),(10,.c (.int .i64)),(78,.sto)]),(13,[(2,.c (.slice 6)),(7,.c (.cel)),(8,.c (.cel)),(9,.c (.bool)),(11,.c (.cel)),(12,.c (.slice 7)),(13,.c (.int .i64)),(78,.sto)])],[],1,[],[],Xa 78,[],[],Try.f7,([.c (.int .i64),.c (.slice 6),.c (.slice 6)]++List.replicate 75 .dead++[.sto]),[.c (.bool)],[(16,F16.S),(17,F17.S),(24,F24.S),(14,F14.S),(25,F25.S),(15,F15.S)]⟩
theorem ok7:F7.S.Ok Try.prog 7:=F7.ok Try.func7 (by kernel_rfl) ⟨ZxA,⟨Zx5,⟨ZxD,⟨Zw0,⟨Zxq,⟨ZxK,trivial⟩⟩⟩⟩⟩⟩
noncomputable def g7 (a:Int) (b:LL) (c:LL) (d:LL):Option (Bool×LL):=F7.S.g [.i a,.l b,.l c,.l d]
noncomputable def Ztl (k:Nat) (a:LL) (c:LL) (d:LL) (e:Bool) (f:LL) (g:LL) (h:Int) (j:LL):Option (Bool×LL):=F7.lp [3,0,1,1,2,1,2] 0 r0 k [.l a,.l c,.l d,.b e,.l f,.l g,.i h,.l j]
theorem Zjx (k:Nat) (i:LL) (j:LL) (l:LL) (d:Bool) (e:LL) (f:LL) (g:Int) (b:LL):Ztl (k+1) i j l d e f g b =
 (if d then
 if (cop .lss g (Xn i:Int)) then
 if (cop .lss g 60) then
 Zk i g [.int .i64,.int .i64,.int .i64,.int .i64,.bool,.str] fun (a:Int×Int×Int×Int×Bool×ByteArray)=>
 (g17 j l a.1 a.2.1 a.2.2.1 a.2.2.2.1 a.2.2.2.2.1 a.2.2.2.2.2 b).bind fun m=>
 Ztl k i j l m.1 e f (iop .add .i64 g 1) m.2
 else
 if d then
 (g14 e b).bind fun a=>
 (g25 a.1 f).bind fun h=>
 if h then
 (g15 a.2).bind fun c=>
 Xa (c.1,c.2)
 else
 Xa (Xe,a.2)
 else
 Xa (Xe,b)
 else
 if d then
 (g14 e b).bind fun a=>
 (g25 a.1 f).bind fun h=>
 if h then
 (g15 a.2).bind fun c=>
 Xa (c.1,c.2)
 else
 Xa (Xe,a.2)
 else
 Xa (Xe,b)
 else
 if d then
 (g14 e b).bind fun a=>
 (g25 a.1 f).bind fun h=>
 if h then
 (g15 a.2).bind fun c=>
 Xa (c.1,c.2)
 else
 Xa (Xe,a.2)
 else
 Xa (Xe,b)):=by kernel_rfl
noncomputable def Zwb (k:Nat) (a:LL) (c:LL) (d:LL) (e:LL) (f:Bool) (g:Int) (h:LL):Option (Bool×LL):=F7.lp [2] 0 r0 k [.l a,.l c,.l d,.l e,.b f,.i g,.l h]
theorem Zj2 (k:Nat) (i:LL) (g:LL) (b:LL) (f:LL) (c:Bool) (h:Int) (d:LL):Zwb (k+1) i g b f c h d =
 (if c then
 if (cop .lss h (Xn i:Int)) then
 if (cop .lss h 60) then
 Zk i h [.int .i64,.int .i64,.int .i64,.int .i64,.bool,.str] fun (a:Int×Int×Int×Int×Bool×ByteArray)=>
 (g17 b f a.1 a.2.1 a.2.2.1 a.2.2.2.1 a.2.2.2.2.1 a.2.2.2.2.2 d).bind fun j=>
 Zwb k i g b f j.1 (iop .add .i64 h 1) j.2
 else
 if (!c) then
 Xa (Xe,d)
 else
 (g24 b d).bind fun a=>
 Zf ((Zc .pisr a.1 0 E0 [])≠[])<|
 if (cop .eql (Xn (Zc .pnn a.1 0 E0 []):Int) 0) then
 Xa (Xe,a.2)
 else
 (g14 b a.2).bind fun e=>
 Ztl Jl g b f c a.1 e.1 0 e.2
 else
 if (!c) then
 Xa (Xe,d)
 else
 (g24 b d).bind fun a=>
 Zf ((Zc .pisr a.1 0 E0 [])≠[])<|
 if (cop .eql (Xn (Zc .pnn a.1 0 E0 []):Int) 0) then
 Xa (Xe,a.2)
 else
 (g14 b a.2).bind fun e=>
 Ztl Jl g b f c a.1 e.1 0 e.2
 else
 if (!c) then
 Xa (Xe,d)
 else
 (g24 b d).bind fun a=>
 Zf ((Zc .pisr a.1 0 E0 [])≠[])<|
 if (cop .eql (Xn (Zc .pnn a.1 0 E0 []):Int) 0) then
 Xa (Xe,a.2)
 else
 (g14 b a.2).bind fun e=>
 Ztl Jl g b f c a.1 e.1 0 e.2):=by kernel_rfl
theorem Zwz (b:Int) (c:LL) (d:LL) (e:LL):g7 b c d e =
 ((g16 b e).bind fun a=>
 Zwb Jl c d a.1 a.2.1 a.2.2.1 0 a.2.2.2):=by kernel_rfl
end Go.Proofs.Ytpjnmgjphfnmmaa
