import Derived.Test.YtpjnmgjphfnmmaaFWg
open Option renaming some→Xa
open Bool renaming false→Xe
open List renaming replicate→Xg,length→Xn
set_option linter.unusedVariables false
set_option linter.unusedSimpArgs false
set_option linter.defProp false
namespace Go.Proofs.Ytpjnmgjphfnmmaa
open Go Go.AM
set_option maxRecDepth 100000
noncomputable def F9:Fn:=⟨15,[4],[],[],0,[],[],none,[],[],Try.f9,[.c (.int .i64),.c (.int .i64)],[.c (.int .i64)],[]⟩
theorem ok9:F9.S.Ok Try.prog 9:=F9.ok Try.func9 (by kernel_rfl) trivial
noncomputable def g9 (a:Int) (b:Int):Option (Int):=F9.S.g [.i a,.i b]
theorem Zws (b:Int) (a:Int):g9 b a =
 (Zf ((a:Int)≠0)<|
 if (cop .lss (iop .rem .i64 b a) 0) then
 Xa ((iop .add .i64 (iop .rem .i64 b a) a))
 else
 Xa ((iop .rem .i64 b a))):=by kernel_rfl
noncomputable def F16:Fn:=⟨34,[2,3,4],[],[],1,[],[],Xa 34,[],[],Try.f16,([.c (.int .i64)]++Xg 33 .dead++[.sto]),[.c (.cel),.c (.cel),.c (.bool)],[(9,F9.S),(8,F8.S),(32,F32.S)]⟩
theorem ZxA:F16.S.Ok Try.prog 16:=F16.ok Try.func16 (by kernel_rfl) ⟨ok9,⟨ok8,⟨ZxJ,trivial⟩⟩⟩
noncomputable def g16 (a:Int) (b:LL):Option (LL×LL×Bool×LL):=F16.S.g [.i a,.l b]
theorem ZuK (c:Int) (d:LL):g16 c d =
 ((g9 c 3).bind fun e=>
 (g8 e d).bind fun a=>
 (g32 e a.2.2).bind fun b=>
 if (cop .eql a.2.1 0) then
 if (cop .eql b.2.1 0) then
 Zf ((Zc .pisr a.1 0 E0 [])≠[])<|
 Xa (a.1,b.1,(cop .neq (Xn (Zc .pnn a.1 0 E0 []):Int) 0),b.2.2)
 else
 Xa (a.1,b.1,Xe,b.2.2)
 else
 Xa (a.1,b.1,Xe,b.2.2)):=by kernel_rfl
noncomputable def F33:Fn:=⟨39,[2,3,4,5,6],[],[],0,[],[],none,[],[],Try.f33,[.agg [.int .i64,.int .i64,.int .i64,.int .i64,.bool,.str]],[.c (.int .i64),.c (.int .i64),.c (.int .i64),.c (.int .i64),.c (.str)],[(9,F9.S)]⟩
theorem Zxo:F33.S.Ok Try.prog 33:=F33.ok Try.func33 (by kernel_rfl) ⟨ok9,trivial⟩
noncomputable def g33 (a:Int) (c:Int) (d:Int) (e:Int) (f:Bool) (h:ByteArray):Option (Int×Int×Int×Int×ByteArray):=F33.S.g [.i a,.i c,.i d,.i e,.b f,.s h]
theorem ZuC (j:Int) (b:Int) (a:Int) (c:Int) (i:Bool) (d:ByteArray):g33 j b a c i d =
 (if i then
 if (cop .leq (ByteArray.size d:Int) 60) then
 Xa (b,a,c,a,d)
 else
 (g9 b 8).bind fun e=>
 (g9 a 8).bind fun f=>
 (g9 c 3).bind fun g=>
 (g9 a 256).bind fun h=>
 Xa ((iop .add .i64 1 e),(iop .add .i64 1 f),g,h,(⟨#[112]⟩:ByteArray))
 else
 (g9 b 8).bind fun e=>
 (g9 a 8).bind fun f=>
 (g9 c 3).bind fun g=>
 (g9 a 256).bind fun h=>
 Xa ((iop .add .i64 1 e),(iop .add .i64 1 f),g,h,(⟨#[112]⟩:ByteArray))):=by kernel_rfl
noncomputable def F38:Fn:=⟨26,[4],[(4,[(0,.c (.slice 3)),(1,.c (.slice 3)),(5,.c (.int .i64))])],[],0,[],[],none,[],[],Try.f38,[.c (.slice 3),.c (.slice 3)],[.c (.bool)],[]⟩
theorem ZxS:F38.S.Ok Try.prog 38:=F38.ok Try.func38 (by kernel_rfl) trivial
noncomputable def g38 (a:LL) (b:LL):Option (Bool):=F38.S.g [.l a,.l b]
noncomputable def Zqd (k:Nat) (a:LL) (b:LL) (c:Int):Option (Bool):=F38.lp [1,0] 0 r0 k [.l a,.l b,.i c]
theorem Zlt (k:Nat) (b:LL) (c:LL) (a:Int):Zqd (k+1) b c a =
 (if (cop .lss a (Xn b:Int)) then
 Zk b a [.int .i64,.int .i64,.int .i64] fun (d:Int×Int×Int)=>
 Zk c a [.int .i64,.int .i64,.int .i64] fun (e:Int×Int×Int)=>
 if (!((cop .eql d.1 e.1)&&((cop .eql d.2.1 e.2.1)&&((cop .eql d.2.2 e.2.2)&&true)))) then
 Xa (Xe)
 else
 Zqd k b c (iop .add .i64 a 1)
 else
 Xa (true)):=by kernel_rfl
theorem Zv0 (a:LL) (b:LL):g38 a b =
 (if (cop .neq (Xn a:Int) (Xn b:Int)) then
 Xa (Xe)
 else
 Zqd Jl a b 0):=by kernel_rfl
noncomputable def F17:Fn:=⟨180,[6],[],[],1,[],[],Xa 180,[],[],Try.f17,([.c (.cel),.c (.cel),.agg [.int .i64,.int .i64,.int .i64,.int .i64,.bool,.str]]++Xg 177 .dead++[.sto]),[.c (.bool)],[(33,F33.S),(9,F9.S),(10,F10.S),(34,F34.S),(35,F35.S),(36,F36.S),(13,F13.S),(37,F37.S),(38,F38.S),(21,F21.S),(39,F39.S),(11,F11.S),(40,F40.S),(23,F23.S),(41,F41.S)]⟩
theorem Zx5:F17.S.Ok Try.prog 17:=F17.ok Try.func17 (by kernel_rfl) ⟨Zxo,⟨ok9,⟨Zw8,⟨Zx8,⟨Zx4,⟨Zxf,⟨ZwX,⟨Zxk,⟨ZxS,⟨ZxF,⟨ZxE,⟨Zw2,⟨Zxr,⟨ZxX,⟨Zxy,trivial⟩⟩⟩⟩⟩⟩⟩⟩⟩⟩⟩⟩⟩⟩⟩
noncomputable def g17 (a:LL) (c:LL) (d:Int) (e:Int) (f:Int) (h:Int) (j:Bool) (k:ByteArray) (m:LL):Option (Bool×LL):=F17.S.g [.l a,.l c,.i d,.i e,.i f,.i h,.b j,.s k,.l m]
theorem ZvS (e:LL) (f:LL) (i:Int) (j:Int) (k:Int) (l:Int) (m:Bool) (n:ByteArray) (g:LL):g17 e f i j k l m n g =
 ((g33 i j k l m n).bind fun b=>
 (g9 i 7).bind fun h=>
 if (cop .eql h 0) then
 (g10 e b.1 b.2.2.2.2 b.2.2.1 g).bind fun a=>
 (g34 f b.1 b.2.2.2.2 b.2.2.1 a.2.2).bind fun c=>
 if (cop .eql a.1 c.1) then
 Xa ((cop .eql a.2.1 c.2.1),c.2.2)
 else
 Xa (Xe,c.2.2)
 else
 if (cop .eql h 1) then
 (g10 e b.1 b.2.2.2.2 b.2.2.1 g).bind fun a=>
 (g34 f b.1 b.2.2.2.2 b.2.2.1 a.2.2).bind fun c=>
 if (cop .eql a.1 c.1) then
 Xa ((cop .eql a.2.1 c.2.1),c.2.2)
 else
 Xa (Xe,c.2.2)
 else
 if (cop .eql h 2) then
 (g35 e b.1 b.2.2.1 g).bind fun a=>
 (g36 f b.1 b.2.2.1 a.2).bind fun o=>
 Xa ((cop .eql a.1 o.1),o.2)
 else
 if (cop .eql h 3) then
 (g13 e b.1 b.2.2.2.1 g).bind fun a=>
 (g37 f b.1 b.2.2.2.1 a.2.2).bind fun c=>
 (g38 a.1 c.1).bind fun d=>
 if d then
 Xa ((cop .eql a.2.1 c.2.1),c.2.2)
 else
 Xa (Xe,c.2.2)
 else
 if (cop .eql h 4) then
 (g21 e b.1 b.2.1 g).bind fun a=>
 (g39 f b.1 b.2.1 a.2.2).bind fun c=>
 (g38 a.1 c.1).bind fun d=>
 if d then
 Xa ((cop .eql a.2.1 c.2.1),c.2.2)
 else
 Xa (Xe,c.2.2)
 else
 if (cop .eql h 5) then
 (g11 e b.1 g).bind fun a=>
 (g40 f b.1 a.2.2.2.2.2).bind fun d=>
 if ((cop .eql a.1 d.1)&&((cop .eql a.2.1 d.2.1)&&((cop .eql a.2.2.1 d.2.2.1)&&true))) then
 if (a.2.2.2.1 == d.2.2.2.1) then
 Xa ((cop .eql a.2.2.2.2.1 d.2.2.2.2.1),d.2.2.2.2.2)
 else
 Xa (Xe,d.2.2.2.2.2)
 else
 Xa (Xe,d.2.2.2.2.2)
 else
 (g23 e b.2.2.1 g).bind fun a=>
 (g41 f b.2.2.1 a.2.2).bind fun c=>
 (g38 a.1 c.1).bind fun d=>
 if d then
 Xa ((cop .eql a.2.1 c.2.1),c.2.2)
 else
 Xa (Xe,c.2.2)):=by kernel_rfl
noncomputable def F15:Fn:=⟨72,[0],[],[],1,[],[],Xa 72,[],[],Try.f15,([]++Xg 72 .dead++[.sto]),[.c (.bool)],[(8,F8.S),(10,F10.S),(11,F11.S),(13,F13.S),(14,F14.S)]⟩
theorem ZxK:F15.S.Ok Try.prog 15:=F15.ok Try.func15 (by kernel_rfl) ⟨ok8,⟨Zw8,⟨Zw2,⟨ZwX,⟨Zw0,trivial⟩⟩⟩⟩⟩
noncomputable def g15 (a:LL):Option (Bool×LL):=F15.S.g [.l a]
theorem Zu3 (f:LL):g15 f =
 ((g8 0 f).bind fun b=>
 if (cop .neq b.2.1 0) then
 Xa (Xe,b.2.2)
 else
 Zf ((Zc .pisr b.1 0 E0 [])≠[])<|
 if (cop .eql (Xn (Zc .pnn b.1 0 E0 []):Int) 0) then
 Xa (Xe,b.2.2)
 else
 (g10 b.1 1 (⟨#[97]⟩:ByteArray) 0 b.2.2).bind fun c=>
 (g11 b.1 1 c.2.2).bind fun d=>
 (g13 b.1 2 7 d.2.2.2.2.2).bind fun a=>
 if (cop .eql c.1 2) then
 if (cop .eql c.2.1 0) then
 if (!d.2.2.2.1) then
 if (cop .eql d.2.2.2.2.1 0) then
 if (cop .eql a.2.1 0) then
 if (cop .eql (Xn a.1:Int) 1) then
 Zk a.1 0 [.int .i64,.int .i64,.int .i64] fun (e:Int×Int×Int)=>
 if ((cop .eql e.1 1)&&((cop .eql e.2.1 2)&&((cop .eql e.2.2 7)&&true))) then
 (g14 b.1 a.2.2).bind fun g=>
 Xa ((cop .eql (Xn g.1:Int) 1),g.2)
 else
 Xa (Xe,a.2.2)
 else
 Xa (Xe,a.2.2)
 else
 Xa (Xe,a.2.2)
 else
 Xa (Xe,a.2.2)
 else
 Xa (Xe,a.2.2)
 else
 Xa (Xe,a.2.2)
 else
 Xa (Xe,a.2.2)):=by kernel_rfl
end Go.Proofs.Ytpjnmgjphfnmmaa
