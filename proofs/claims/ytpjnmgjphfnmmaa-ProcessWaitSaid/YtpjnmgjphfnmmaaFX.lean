import Derived.Test.YtpjnmgjphfnmmaaFWh
open Option renaming some→Xa
open Bool renaming false→Xc
open List renaming length→XT
set_option linter.unusedVariables false
set_option linter.unusedSimpArgs false
set_option linter.defProp false
namespace Go.Proofs.Ytpjnmgjphfnmmaa
open Go Go.AM
set_option maxRecDepth 100000
noncomputable def F12:Fn:=⟨53,[4],[],[0],0,[],[],none,[],[],Try.f12,[.box [.slice 1,.int .i64],.c (.int .i64)],[.c (.int .i64)],[(9,F9.S)]⟩
theorem Zud:F12.S.Ok Try.prog 12:=F12.ok Try.func12 (by kernel_rfl) ⟨ok9,trivial⟩
noncomputable def g12 (a:LL) (b:Int) (c:Int):Option (Int×LL×Int):=F12.S.g [.l a,.i b,.i c]
theorem ZsN (a:LL) (b:Int) (c:Int):g12 a b c =
 (if (cop .gtr (XT a:Int) 0) then
 ZW (((XT a:Int):Int)≠0)<|
 Jn a (iop .rem .i64 b (XT a:Int)) [.int .i64] fun (d:Int)=>
 (g9 d 1073741824).bind fun e=>
 ZW (((iop .max .i64 (XT a:Int) 1):Int)≠0)<|
 ZW ((c:Int)≠0)<|
 Xa ((iop .rem .i64 (iop .add .i64 e (iop .mul .i64 7 (iop .quo .i64 b (iop .max .i64 (XT a:Int) 1)))) c),a,(iop .add .i64 b 1))
 else
 ZW (((iop .max .i64 (XT a:Int) 1):Int)≠0)<|
 ZW ((c:Int)≠0)<|
 Xa ((iop .rem .i64 (iop .add .i64 0 (iop .mul .i64 7 (iop .quo .i64 b (iop .max .i64 (XT a:Int) 1)))) c),a,(iop .add .i64 b 1))):=by kernel_rfl
noncomputable def F3:Fn:=⟨184,[6],[(7,[(1,.c (.slice 1)),(2,.c (.slice 1)),(7,.c (.cel)),(9,.c (.int .i64)),(10,.c (.own Xc 3)),(11,.c (.int .i64)),(184,.sto)]),(16,[(2,.c (.slice 1)),(7,.c (.cel)),(9,.c (.int .i64)),(10,.c (.own Xc 3)),(14,.ptr 58 0),(15,.c (.int .i64)),(16,.c (.bool)),(17,.c (.int .i64)),(58,.box [.slice 1,.int .i64]),(184,.sto)])],[],1,[],[],Xa 184,[],[],Try.f3,([.c (.int .i64),.c (.slice 1),.c (.slice 1)]++List.replicate 181 .dead++[.sto]),[.c (.bool)],[(8,F8.S),(9,F9.S),(10,F10.S),(11,F11.S),(12,F12.S),(13,F13.S),(14,F14.S),(15,F15.S)]⟩
theorem ok3:F3.S.Ok Try.prog 3:=F3.ok Try.func3 (by kernel_rfl) ⟨ok8,⟨ok9,⟨ZtZ,⟨Zt0,⟨Zud,⟨ZtV,⟨ZtU,⟨Zuh,trivial⟩⟩⟩⟩⟩⟩⟩⟩
noncomputable def g3 (a:Int) (b:LL) (c:LL) (d:LL):Option (Bool×LL):=F3.S.g [.i a,.l b,.l c,.l d]
noncomputable def Zr4 (k:Nat) (a:LL) (c:LL) (d:Int) (e:LL) (f:Int) (g:Bool) (h:Int) (j:LL) (m:Int) (n:LL):Option (Bool×LL):=F3.lp [0,1,0,1,2,1,0] 0 r0 k [.l a,.l c,.i d,.l e,.i f,.b g,.i h,.l j,.i m,.l n]
noncomputable def D3 (k:Nat) (b c:LL) (d:Int) (a:LL) (e:Int) (f:Int) (r11:Int×LL×Int) (r15:LL×Int×LL):Option (Bool×LL):=
 ZW ((0:Int)≤r11.1)<|
 ZW ((r11.1:Int)≤(XT a:Int))<|
 ZW (Zaz E0 (List.take (Int.toNat r11.1) a) 8)<|
 ZW ((0:Int)≤(iop .add .i64 r11.1 1))<|
 ZW (((iop .add .i64 r11.1 1):Int)≤(XT a:Int))<|
 ZW (Zaz (List.take (Int.toNat r11.1) a) (List.drop (Int.toNat (iop .add .i64 r11.1 1)) a) 8)<|
 Zr4 k b c d ((List.take (Int.toNat r11.1) a)++(List.drop (Int.toNat (iop .add .i64 r11.1 1)) a)) e Xc (iop .add .i64 f 1) r11.2.1 r11.2.2 r15.2.2
noncomputable def C3 (k:Nat) (a b:LL) (c:Int) (d:LL) (e:Int) (g:Bool) (f:Int) (r11:Int×LL×Int) (r15:LL×Int×LL):Option (Bool×LL):=
 if g then D3 k a b c d (iop .add .i64 e 1) f r11 r15 else D3 k a b c d e f r11 r15
noncomputable def B3 (k:Nat) (d e:LL) (f:Int) (a:LL) (g:Int) (b:Bool) (h:Int) (r11:Int×LL×Int) (r15:LL×Int×LL):Option (Bool×LL):=
 if b then
 Jn r15.1 0 [.int .i64,.int .i64,.int .i64] fun (c:Int×Int×Int)=>
 Jn a r11.1 [.int .i64] fun (i:Int)=>
 if (!((cop .eql c.1 1)&&((cop .eql c.2.1 i)&&((cop .eql c.2.2 r11.1)&&true)))) then
 Xa (Xc,r15.2.2)
 else C3 k d e f a g b h r11 r15
 else C3 k d e f a g b h r11 r15
noncomputable def A3 (k:Nat) (b c:LL) (d:Int) (e:LL) (f:Int) (a:Bool) (g:Int) (r11:Int×LL×Int) (r15:LL×Int×LL):Option (Bool×LL):=
 if (cop .neq (XT r15.1:Int) 0) then
 if (!a) then Xa (Xc,r15.2.2) else B3 k b c d e f a g r11 r15
 else B3 k b c d e f a g r11 r15
noncomputable def X3 (k:Nat) (f d:LL) (g:Int) (b:LL) (h:Int) (e:Bool) (i:Int) (l:LL) (m:Int) (j:LL):Option (Bool×LL):=
 if (cop .eql (XT b:Int) 0) then Xa (Xc,j)
 else
 (g12 l m (XT b:Int)).bind fun c=>
 Jn b c.1 [.int .i64] fun (n:Int)=>
 (g13 d n c.1 j).bind fun a=>
 if (cop .neq a.2.1 0) then Xa (Xc,a.2.2)
 else
 if (cop .neq (XT a.1:Int) 1) then
 if e then Xa (Xc,a.2.2)
 else A3 k f d g b h e i c a
 else A3 k f d g b h e i c a
noncomputable def W3 (k:Nat) (c b:LL) (d:Int) (e:LL) (f:Int) (g:Bool) (h:Int) (i:LL) (j:Int) (l:LL):Option (Bool×LL):=
 if (!g) then
 (g11 b 1 l).bind fun a=>
 if (cop .neq a.2.2.2.2.1 0) then Xa (Xc,a.2.2.2.2.2)
 else
 if a.2.2.2.1 then
 Zr4 k c b d e (iop .add .i64 f 1) g (iop .add .i64 h 1) i j a.2.2.2.2.2
 else
 Zr4 k c b d e f true (iop .add .i64 h 1) i j a.2.2.2.2.2
 else X3 k c b d e f g h i j l
noncomputable def Y3 (k:Nat) (b c:LL) (d:Int) (a:LL) (e:Int) (f:Bool) (g:Int) (h:LL) (i:Int) (j:LL):Option (Bool×LL):=
 if (cop .eql (XT a:Int) 0) then W3 k b c d a e f g h i j else X3 k b c d a e f g h i j
noncomputable def Z3 (c:LL) (e:Int) (f:Int) (g:LL):Option (Bool×LL):=
 (g11 c 1 g).bind fun a=>
 if (cop .eql f e) then
 if (cop .eql a.2.2.2.2.1 2) then
 (g14 c a.2.2.2.2.2).bind fun b=>
 if (cop .eql (XT b.1:Int) 1) then
 (g15 b.2).bind fun d=>
 Xa (d.1,d.2)
 else
 Xa (Xc,b.2)
 else
 Xa (Xc,a.2.2.2.2.2)
 else
 Xa (Xc,a.2.2.2.2.2)
theorem ZiJ (k:Nat) (d:LL) (e:LL) (a:Int) (g:LL) (b:Int) (h:Bool) (c:Int) (i:LL) (j:Int) (f:LL):Zr4 (k+1) d e a g b h c i j f =
 (if (cop .lss b a) then
 if (cop .lss c 100) then
 if (cop .lss c (XT d:Int)) then
 Jn d c [.bool] fun (l:Bool)=>
 if l then W3 k d e a g b h c i j f else Y3 k d e a g b h c i j f
 else Y3 k d e a g b h c i j f
 else Z3 e a b f
 else Z3 e a b f):=by kernel_rfl
noncomputable def Ztm (k:Nat) (a:LL) (b:LL) (c:LL) (d:Int) (e:LL) (f:Int) (g:LL):Option (Bool×LL):=F3.lp [0,1,0,1,2] 0 r0 k [.l a,.l b,.l c,.i d,.l e,.i f,.l g]
theorem Zot (k:Nat) (f:LL) (g:LL) (b:LL) (c:Int) (d:LL) (e:Int) (h:LL):Ztm (k+1) f g b c d e h =
 (if (cop .lss e c) then
 ZW ((3:Int)≠0)<|
 (g10 b 1 (⟨#[99,104,105,108,100]⟩:ByteArray) (iop .rem .i64 e 3) h).bind fun a=>
 if (cop .neq a.2.1 0) then
 Xa (Xc,a.2.2)
 else
 ZW (Zaz d (E0++[[AV.val (.int .i64 a.1)]]) 8)<|
 Ztm k f g b c (d++(E0++[[AV.val (.int .i64 a.1)]])) (iop .add .i64 e 1) a.2.2
 else
 Zr4 ZeD g b c d 0 Xc 0 f 0 h):=by kernel_rfl
theorem ZtP (b:Int) (c:LL) (d:LL) (e:LL):g3 b c d e =
 ((g8 0 e).bind fun a=>
 if (cop .neq a.2.1 0) then
 Xa (Xc,a.2.2)
 else
 ZW ((Zf .pisr a.1 0 E0 [])≠[])<|
 if (cop .eql (XT (Zf .pnn a.1 0 E0 []):Int) 0) then
 Xa (Xc,a.2.2)
 else
 (g9 b 8).bind fun f=>
 Ztm ZeD c d a.1 (iop .add .i64 1 f) E0 0 a.2.2):=by kernel_rfl
end Go.Proofs.Ytpjnmgjphfnmmaa
