import Derived.Test.YtpjnmgjphfnmmaaFT
open Option renaming some→Xa
open Bool renaming false→Xc
open List renaming length→Xm
set_option linter.unusedVariables false
set_option linter.unusedSimpArgs false
set_option linter.defProp false
namespace Go.Proofs.Ytpjnmgjphfnmmaa
open Go Go.AM
set_option maxRecDepth 100000
noncomputable def F22:Fn:=⟨18,[4],[(2,[(0,.c (.slice 1)),(1,.c (.int .i64)),(5,.c (.int .i64))])],[],0,[],[],none,[],[],Try.f22,[.c (.slice 1),.c (.int .i64)],[.c (.bool)],[]⟩
theorem ZwK:F22.S.Ok Try.prog 22:=F22.ok Try.func22 (by kernel_rfl) trivial
noncomputable def g22 (a:LL) (b:Int):Option (Bool):=F22.S.g [.l a,.i b]
noncomputable def Zqf (k:Nat) (a:LL) (b:Int) (c:Int):Option (Bool):=F22.lp [0] 0 r0 k [.l a,.i b,.i c]
theorem Zkh (k:Nat) (a:LL) (c:Int) (b:Int):Zqf (k+1) a c b =
 (if (cop .lss b (Xm a:Int)) then
 Zl a b [.int .i64] fun (d:Int)=>
 if (cop .eql d c) then
 Xa (true)
 else
 Zqf k a c (iop .add .i64 b 1)
 else
 Xa (Xc)):=by kernel_rfl
theorem Zus (a:LL) (b:Int):g22 a b =
 (Zqf Jv a b 0):=by kernel_rfl
noncomputable def F6:Fn:=⟨156,[6],[(3,[(1,.c (.slice 6)),(2,.c (.int .i64)),(7,.c (.cel)),(8,.c (.cel)),(9,.c (.bool)),(10,.c (.int .i64)),(156,.sto)]),(15,[(11,.c (.int .i64)),(12,.c (.slice 7)),(15,.c (.slice 7)),(16,.c (.int .i64)),(156,.sto)])],[],1,[],[],Xa 156,[],[],Try.f6,([.c (.int .i64),.c (.slice 6),.c (.int .i64)]++List.replicate 153 .dead++[.sto]),[.c (.bool)],[(16,F16.S),(17,F17.S),(9,F9.S),(14,F14.S),(23,F23.S),(20,F20.S),(22,F22.S),(15,F15.S)]⟩
theorem ok6:F6.S.Ok Try.prog 6:=F6.ok Try.func6 (by kernel_rfl) ⟨Zwk,⟨ZwC,⟨ok9,⟨ZvX,⟨ZvR,⟨Zwx,⟨ZwK,⟨Zwl,trivial⟩⟩⟩⟩⟩⟩⟩⟩
noncomputable def g6 (a:Int) (b:LL) (c:Int) (d:LL):Option (Bool×LL):=F6.S.g [.i a,.l b,.i c,.l d]
noncomputable def Zlf (k:Nat) (a:Int) (b:LL) (c:LL) (d:Int) (e:LL):Option (Bool×LL):=F6.lp [3,0,1,1,3,1,2] 0 r0 k [.i a,.l b,.l c,.i d,.l e]
abbrev R7:=Int×Int×ByteArray×LL×Bool×Int×Bool
abbrev R8:=Int×Int×ByteArray×LL×Bool×Int×Bool×Bool
noncomputable def N6 (k:Nat) (b:Int) (c:LL) (d:LL) (e:Int) (a:LL) (r5:R7) (r12:R8):Option (Bool×LL):=
 (g22 r5.2.2.2.1 b).bind fun f=>
 if f then
 if r12.2.2.2.2.2.2.2 then
 if (!r12.2.2.2.2.1) then
 if (cop .neq (Xm r12.2.2.2.1:Int) (iop .sub .i64 (Xm r5.2.2.2.1:Int) 1)) then
 Xa (Xc,a)
 else Zlf k b c d (iop .add .i64 e 1) a
 else Zlf k b c d (iop .add .i64 e 1) a
 else Zlf k b c d (iop .add .i64 e 1) a
 else
 if r12.2.2.2.2.2.2.2 then
 if (!r12.2.2.2.2.1) then
 if (cop .neq (Xm r12.2.2.2.1:Int) (Xm r5.2.2.2.1:Int)) then
 Xa (Xc,a)
 else Zlf k b c d (iop .add .i64 e 1) a
 else Zlf k b c d (iop .add .i64 e 1) a
 else Zlf k b c d (iop .add .i64 e 1) a
noncomputable def S6 (k:Nat) (b:Int) (c:LL) (d:LL) (e:Int) (a:LL) (r5:R7) (r12:R8) (r20:Int):Option (Bool×LL):=
 if (!r5.2.2.2.2.1) then
 if (cop .eql r20 b) then
 if r12.2.2.2.2.2.2.2 then
 if (!r12.2.2.2.2.1) then Xa (Xc,a)
 else
 if (cop .neq r12.2.2.2.2.2.1 (-2)) then Xa (Xc,a)
 else N6 k b c d e a r5 r12
 else N6 k b c d e a r5 r12
 else N6 k b c d e a r5 r12
 else N6 k b c d e a r5 r12
theorem ZnG (k:Nat) (d:Int) (e:LL) (g:LL) (f:Int) (b:LL):Zlf (k+1) d e g f b =
 (if (cop .lss f (Xm e:Int)) then
 Zl e f [.int .i64,.int .i64,.str,.slice 1,.bool,.int .i64,.bool] fun (a:R7)=>
 (g20 g a.1).bind fun c=>
 if (cop .eql (Xm a.2.2.2.1:Int) 1) then
 Zl a.2.2.2.1 0 [.int .i64] fun (h:Int)=>
 if (!a.2.2.2.2.1) then
 if (!(cop .eql h d)) then
 if (!c.2.2.2.2.2.2.2) then Xa (Xc,b)
 else
 if c.2.2.2.2.1 then Xa (Xc,b)
 else
 (g22 c.2.2.2.1 d).bind fun i=>
 if i then Xa (Xc,b) else S6 k d e g f b a c h
 else S6 k d e g f b a c h
 else S6 k d e g f b a c h
 else
 if (!a.2.2.2.2.1) then
 if (!c.2.2.2.2.2.2.2) then Xa (Xc,b)
 else
 if c.2.2.2.2.1 then Xa (Xc,b)
 else
 (g22 c.2.2.2.1 d).bind fun h=>
 if h then Xa (Xc,b)
 else (if (!a.2.2.2.2.1) then N6 k d e g f b a c else N6 k d e g f b a c)
 else (if (!a.2.2.2.2.1) then N6 k d e g f b a c else N6 k d e g f b a c)
 else
 (g15 b).bind fun a=>
 Xa (a.1,a.2)):=by kernel_rfl
noncomputable def Zva (k:Nat) (a:LL) (c:Int) (d:LL) (e:LL) (f:Bool) (g:Int) (h:LL):Option (Bool×LL):=F6.lp [2] 0 r0 k [.l a,.i c,.l d,.l e,.b f,.i g,.l h]
noncomputable def Z6 (g:Int) (a:LL) (h:Bool) (c:LL):Option (Bool×LL):=
 if (!h) then
 Xa (Xc,c)
 else
 (g9 g 3).bind fun d=>
 (g14 a c).bind fun e=>
 (g23 a d e.2).bind fun b=>
 if (cop .neq b.2.1 0) then
 Xa (Xc,b.2.2)
 else
 (g14 a b.2.2).bind fun f=>
 Zlf Jv d e.1 f.1 0 f.2
theorem Zit (k:Nat) (g:LL) (c:Int) (a:LL) (h:LL) (d:Bool) (e:Int) (f:LL):Zva (k+1) g c a h d e f =
 (if d then
 if (cop .lss e (Xm g:Int)) then
 if (cop .lss e 80) then
 Zl g e [.int .i64,.int .i64,.int .i64,.int .i64,.bool,.str] fun (b:Int×Int×Int×Int×Bool×ByteArray)=>
 (g17 a h b.1 b.2.1 b.2.2.1 b.2.2.2.1 b.2.2.2.2.1 b.2.2.2.2.2 f).bind fun i=>
 Zva k g c a h i.1 (iop .add .i64 e 1) i.2
 else Z6 c a d f
 else Z6 c a d f
 else Z6 c a d f):=by kernel_rfl
theorem ZvA (b:Int) (c:LL) (d:Int) (e:LL):g6 b c d e =
 ((g16 b e).bind fun a=>
 Zva Jv c d a.1 a.2.1 a.2.2.1 0 a.2.2.2):=by kernel_rfl
end Go.Proofs.Ytpjnmgjphfnmmaa
