import Derived.Test.YtpjnmgjphfnmmaaFWd
open Option renaming some→Xa
open Bool renaming false→Xe
open List renaming replicate→Xg,length→Xn
open Int renaming toNat→Ux
set_option linter.unusedVariables false
set_option linter.unusedSimpArgs false
set_option linter.defProp false
namespace Go.Proofs.Ytpjnmgjphfnmmaa
open Go Go.AM
set_option maxRecDepth 100000
noncomputable def F54:Fn:=⟨9,[2],[],[],0,[],[],none,[],[],Try.f54,[.c (.int .i64)],[.c (.bool)],[]⟩
theorem Zv9:F54.S.Ok Try.prog 54:=F54.ok Try.func54 (by kernel_rfl) trivial
noncomputable def g54 (a:Int):Option (Bool):=F54.S.g [.i a]
theorem ZuB (a:Int):g54 a =
 (if (cop .geq a 0) then
 Xa ((cop .lss a 32))
 else
 Xa (Xe)):=by kernel_rfl
noncomputable def F32:Fn:=⟨13,[2,3],[],[],1,[10,12],[],Xa 13,[42],[],Try.f32,([.c (.int .i64)]++Xg 12 .dead++[.sto]),[.c (.cel),.c (.int .i64)],[(54,F54.S)]⟩
theorem ZxJ:F32.S.Ok Try.prog 32:=F32.ok Try.func32 (by kernel_rfl) ⟨Zv9,trivial⟩
noncomputable def g32 (a:Int) (b:LL):Option (LL×Int×LL):=F32.S.g [.i a,.l b]
theorem ZvB (b:Int) (a:LL):g32 b a =
 ((g54 b).bind fun c=>
 if (!c) then
 Xa ((Zc (.pnil 0) E0 0 E0 []),1,a)
 else
 Xa ((Zc .pnew (a++[[AV.val (.int .i64 1),AV.val (.int .i64 0),AV.val (.string (⟨#[105,110,105,116]⟩:ByteArray)),AV.slice Xe 1 (E0++[[AV.val (.int .i64 b)]]),AV.val (.bool Xe),AV.val (.int .i64 0),AV.val (.bool Xe)]]) 0 E0 []),0,((a++[[AV.val (.int .i64 1),AV.val (.int .i64 0),AV.val (.string (⟨#[105,110,105,116]⟩:ByteArray)),AV.slice Xe 1 (E0++[[AV.val (.int .i64 b)]]),AV.val (.bool Xe),AV.val (.int .i64 0),AV.val (.bool Xe)]])++[[Zd (Zc (.parr 57) a 1 E0 []),AV.val (.int .i64 1)]]))):=by kernel_rfl
noncomputable def F60:Fn:=⟨31,[4],[(2,[(0,.c (.cel)),(1,.c (.int .i64)),(5,.c (.int .i64)),(31,.sto)])],[],1,[],[],Xa 31,[42],[],Try.f60,([.c (.cel),.c (.int .i64)]++Xg 29 .dead++[.sto]),[.c (.cel)],[]⟩
theorem Zu6:F60.S.Ok Try.prog 60:=F60.ok Try.func60 (by kernel_rfl) trivial
noncomputable def g60 (a:LL) (b:Int) (c:LL):Option (LL×LL):=F60.S.g [.l a,.i b,.l c]
noncomputable def Zn1 (k:Nat) (a:LL) (b:Int) (c:Int) (d:LL):Option (LL×LL):=F60.lp [0] 0 r0 k [.l a,.i b,.i c,.l d]
theorem Zkz (k:Nat) (a:LL) (d:Int) (b:Int) (c:LL):Zn1 (k+1) a d b c =
 (Zf ((Zc .pnn a 0 E0 [])≠[])<|
 Zf ((Zc .pnn a 0 E0 [])≠[])<|
 Zk (Zc (.get 1) c 0 (Zc (.padd 0) a 0 E0 []) []) 0 [.cel] fun (f:LL)=>
 Zf ((Zc .pisl f 0 E0 [])≠[])<|
 if (cop .lss b (Xn (Zc .plen f 0 E0 []):Int)) then
 Zf ((Zc .pnn a 0 E0 [])≠[])<|
 Zf ((Zc .pnn a 0 E0 [])≠[])<|
 Zk (Zc (.get 1) c 0 (Zc (.padd 0) a 0 E0 []) []) 0 [.cel] fun (e:LL)=>
 Zf ((0:Int)≤b)<|
 Zf ((b:Int) < (Xn (Zc .plen e 0 E0 []):Int))<|
 Zf ((Zc .pnn (Zc (.pidx 7) e b E0 []) 0 E0 [])≠[])<|
 Zk (Zc (.get 1) c 0 (Zc (.padd 0) (Zc (.pidx 7) e b E0 []) 0 E0 []) []) 0 [.int .i64] fun (h:Int)=>
 if (cop .eql h d) then
 Zf ((Zc .pnn a 0 E0 [])≠[])<|
 Zf ((Zc .pnn a 0 E0 [])≠[])<|
 Zk (Zc (.get 1) c 0 (Zc (.padd 0) a 0 E0 []) []) 0 [.cel] fun (g:LL)=>
 Zf ((0:Int)≤b)<|
 Zf ((b:Int) < (Xn (Zc .plen g 0 E0 []):Int))<|
 Xa ((Zc (.pidx 7) g b E0 []),c)
 else
 Zn1 k a d (iop .add .i64 b 1) c
 else
 Xa ((Zc (.pnil 0) E0 0 E0 []),c)):=by kernel_rfl
theorem ZrO (a:LL) (b:Int) (c:LL):g60 a b c =
 (Zn1 Jl a b 0 c):=by kernel_rfl
noncomputable def F55:Fn:=⟨19,[4],[],[],1,[],[],Xa 19,[42],[],Try.f55,([.c (.cel),.c (.int .i64)]++Xg 17 .dead++[.sto]),[.c (.cel)],[(60,F60.S)]⟩
theorem Zub:F55.S.Ok Try.prog 55:=F55.ok Try.func55 (by kernel_rfl) ⟨Zu6,trivial⟩
noncomputable def g55 (a:LL) (b:Int) (c:LL):Option (LL×LL):=F55.S.g [.l a,.i b,.l c]
theorem Zsk (b:LL) (c:Int) (d:LL):g55 b c d =
 ((g60 b c d).bind fun a=>
 Zf ((Zc .pisr a.1 0 E0 [])≠[])<|
 if (cop .neq (Xn (Zc .pnn a.1 0 E0 []):Int) 0) then
 Zf ((Zc .pnn a.1 0 E0 [])≠[])<|
 Zf ((Zc .pnn a.1 0 E0 [])≠[])<|
 Zk (Zc (.get 1) a.2 0 (Zc (.padd 4) a.1 0 E0 []) []) 0 [.bool] fun (e:Bool)=>
 if (!e) then
 Xa (a.1,a.2)
 else
 Xa ((Zc (.pnil 0) E0 0 E0 []),a.2)
 else
 Xa ((Zc (.pnil 0) E0 0 E0 []),a.2)):=by kernel_rfl
noncomputable def F86:Fn:=⟨21,[2],[],[],0,[],[],none,[],[],Try.f86,[.c (.int .u8)],[.c (.bool)],[]⟩
theorem ZxZ:F86.S.Ok Try.prog 86:=F86.ok Try.func86 (by kernel_rfl) trivial
noncomputable def g86 (a:Int):Option (Bool):=F86.S.g [.i a]
theorem ZuJ (a:Int):g86 a =
 (if (cop .geq a 97) then
 if (cop .leq a 122) then
 Xa (true)
 else
 if (cop .geq a 65) then
 if (cop .leq a 90) then
 Xa (true)
 else
 Xa ((cop .eql a 95))
 else
 Xa ((cop .eql a 95))
 else
 if (cop .geq a 65) then
 if (cop .leq a 90) then
 Xa (true)
 else
 Xa ((cop .eql a 95))
 else
 Xa ((cop .eql a 95))):=by kernel_rfl
noncomputable def F87:Fn:=⟨9,[2],[],[],0,[],[],none,[],[],Try.f87,[.c (.int .u8)],[.c (.bool)],[]⟩
theorem Zxu:F87.S.Ok Try.prog 87:=F87.ok Try.func87 (by kernel_rfl) trivial
noncomputable def g87 (a:Int):Option (Bool):=F87.S.g [.i a]
theorem ZuV (a:Int):g87 a =
 (if (cop .geq a 48) then
 Xa ((cop .leq a 57))
 else
 Xa (Xe)):=by kernel_rfl
noncomputable def F70:Fn:=⟨30,[2],[(4,[(0,.c (.str)),(3,.c (.int .i64))])],[],0,[],[],none,[],[],Try.f70,[.c (.str)],[.c (.bool)],[(86,F86.S),(87,F87.S)]⟩
theorem Zxi:F70.S.Ok Try.prog 70:=F70.ok Try.func70 (by kernel_rfl) ⟨ZxZ,⟨Zxu,trivial⟩⟩
noncomputable def g70 (a:ByteArray):Option (Bool):=F70.S.g [.s a]
noncomputable def ZmO (k:Nat) (a:ByteArray) (b:Int):Option (Bool):=F70.lp [1,3,1,0] 0 r0 k [.s a,.i b]
theorem Zkx (k:Nat) (b:ByteArray) (a:Int):ZmO (k+1) b a =
 (if (cop .lss a (ByteArray.size b:Int)) then
 Zf ((0:Int)≤a)<|
 Zf ((a:Int) < (ByteArray.size b:Int))<|
 (g86 (((ByteArray.data b).toList.getD (Ux a) 0).toNat:Int)).bind fun c=>
 if (!c) then
 Zf ((0:Int)≤a)<|
 Zf ((a:Int) < (ByteArray.size b:Int))<|
 (g87 (((ByteArray.data b).toList.getD (Ux a) 0).toNat:Int)).bind fun d=>
 if (!d) then
 Xa (Xe)
 else
 ZmO k b (iop .add .i64 a 1)
 else
 ZmO k b (iop .add .i64 a 1)
 else
 Xa (true)):=by kernel_rfl
theorem ZvG (a:ByteArray):g70 a =
 (if (ByteArray.toList a == ByteArray.toList (⟨#[]⟩:ByteArray)) then
 Xa (Xe)
 else
 Zf ((0:Int)≤0)<|
 Zf ((0:Int) < (ByteArray.size a:Int))<|
 (g86 (((ByteArray.data a).toList.getD (Ux 0) 0).toNat:Int)).bind fun b=>
 if (!b) then
 Xa (Xe)
 else
 ZmO Jl a 1):=by kernel_rfl
noncomputable def F56:Fn:=⟨10,[2],[],[],0,[],[],none,[],[],Try.f56,[.c (.str)],[.c (.bool)],[(70,F70.S)]⟩
theorem ZxM:F56.S.Ok Try.prog 56:=F56.ok Try.func56 (by kernel_rfl) ⟨Zxi,trivial⟩
noncomputable def g56 (a:ByteArray):Option (Bool):=F56.S.g [.s a]
theorem ZvN (a:ByteArray):g56 a =
 ((g70 a).bind fun b=>
 if b then
 Xa ((cop .leq (ByteArray.size a:Int) 24))
 else
 Xa (Xe)):=by kernel_rfl
noncomputable def F34:Fn:=⟨59,[8,9],[],[],1,[],[],Xa 59,[42],[],Try.f34,([.c (.cel),.c (.int .i64),.c (.str),.c (.int .i64)]++Xg 55 .dead++[.sto]),[.c (.int .i64),.c (.int .i64)],[(55,F55.S),(56,F56.S),(54,F54.S)]⟩
theorem Zx8:F34.S.Ok Try.prog 34:=F34.ok Try.func34 (by kernel_rfl) ⟨Zub,⟨ZxM,⟨Zv9,trivial⟩⟩⟩
noncomputable def g34 (a:LL) (b:Int) (c:ByteArray) (d:Int) (e:LL):Option (Int×Int×LL):=F34.S.g [.l a,.i b,.s c,.i d,.l e]
theorem Zr1 (a:LL) (c:Int) (d:ByteArray) (e:Int) (i:LL):g34 a c d e i =
 ((g55 a c i).bind fun b=>
 Zf ((Zc .pisr b.1 0 E0 [])≠[])<|
 if (cop .eql (Xn (Zc .pnn b.1 0 E0 []):Int) 0) then
 Xa (0,17,b.2)
 else
 (g56 d).bind fun k=>
 if (!k) then
 Xa (0,63,b.2)
 else
 (g54 e).bind fun l=>
 if (!l) then
 Xa (0,1,b.2)
 else
 Zf ((Zc .pnn a 0 E0 [])≠[])<|
 Zf ((Zc .pnn a 0 E0 [])≠[])<|
 Zk (Zc (.get 1) b.2 0 (Zc (.padd 0) a 0 E0 []) []) 0 [.cel] fun (j:LL)=>
 Zf ((Zc .pisl j 0 E0 [])≠[])<|
 if (cop .geq (Xn (Zc .plen j 0 E0 []):Int) 64) then
 Xa (0,15,b.2)
 else
 Zf ((Zc .pnn a 0 E0 [])≠[])<|
 Zf ((Zc .pnn a 0 E0 [])≠[])<|
 Zk (Zc (.get 1) b.2 0 (Zc (.padd 1) a 0 E0 []) []) 0 [.int .i64] fun (f:Int)=>
 Zf ((Zc .pnn a 0 E0 [])≠[])<|
 Zf ((Zc .pnn a 0 E0 [])≠[])<|
 Zf ((Zc (.get 1) b.2 0 (Zc (.padd 1) a 0 E0 []) [])≠[])<|
 Zf ((Zc .pnn a 0 E0 [])≠[])<|
 Zf ((Zc .pnn a 0 E0 [])≠[])<|
 Zk (Zc (.get 1) (Zc .set b.2 0 (Zc (.padd 1) a 0 E0 []) [AV.val (.int .i64 (iop .add .i64 f 1))]) 0 (Zc (.padd 0) a 0 E0 []) []) 0 [.cel] fun (g:LL)=>
 Zf ((Zc .pnn a 0 E0 [])≠[])<|
 Zf ((Zc .pnn a 0 E0 [])≠[])<|
 Zk (Zc (.get 1) (Zc .set b.2 0 (Zc (.padd 1) a 0 E0 []) [AV.val (.int .i64 (iop .add .i64 f 1))]) 0 (Zc (.padd 1) a 0 E0 []) []) 0 [.int .i64] fun (h:Int)=>
 Zf ((E0++[[AV.val (.int .i64 h),AV.val (.int .i64 c),AV.val (.string d),AV.slice Xe 1 (E0++[[AV.val (.int .i64 e)]]),AV.val (.bool Xe),AV.val (.int .i64 0),AV.val (.bool Xe)]])≠[])<|
 Zf ((Zc (.vchk 57 7) (Zc .set b.2 0 (Zc (.padd 1) a 0 E0 []) [AV.val (.int .i64 (iop .add .i64 f 1))]) 0 g [])≠[])<|
 Zf (Jp (Zc .plen g 0 E0 []) (E0++[[AV.val (.int .i64 h),AV.val (.int .i64 c),AV.val (.string d),AV.slice Xe 1 (E0++[[AV.val (.int .i64 e)]]),AV.val (.bool Xe),AV.val (.int .i64 0),AV.val (.bool Xe)]]) 80)<|
 Zf ((Zc .pnn a 0 E0 [])≠[])<|
 Zf ((Zc .pnn a 0 E0 [])≠[])<|
 Zf ((Zc (.get 1) (Zc (.app 7) (Zc .set b.2 0 (Zc (.padd 1) a 0 E0 []) [AV.val (.int .i64 (iop .add .i64 f 1))]) 0 g [AV.slice Xe 7 (E0++[[AV.val (.int .i64 h),AV.val (.int .i64 c),AV.val (.string d),AV.slice Xe 1 (E0++[[AV.val (.int .i64 e)]]),AV.val (.bool Xe),AV.val (.int .i64 0),AV.val (.bool Xe)]])]) 0 (Zc (.padd 0) a 0 E0 []) [])≠[])<|
 Zf ((Zc .pnn a 0 E0 [])≠[])<|
 Zf ((Zc .pnn a 0 E0 [])≠[])<|
 Zk (Zc (.get 1) (Zc .set (Zc (.app 7) (Zc .set b.2 0 (Zc (.padd 1) a 0 E0 []) [AV.val (.int .i64 (iop .add .i64 f 1))]) 0 g [AV.slice Xe 7 (E0++[[AV.val (.int .i64 h),AV.val (.int .i64 c),AV.val (.string d),AV.slice Xe 1 (E0++[[AV.val (.int .i64 e)]]),AV.val (.bool Xe),AV.val (.int .i64 0),AV.val (.bool Xe)]])]) 0 (Zc (.padd 0) a 0 E0 []) [Zd (Zc (.papp 57) (Zc .set b.2 0 (Zc (.padd 1) a 0 E0 []) [AV.val (.int .i64 (iop .add .i64 f 1))]) 0 g [AV.slice Xe 7 (E0++[[AV.val (.int .i64 h),AV.val (.int .i64 c),AV.val (.string d),AV.slice Xe 1 (E0++[[AV.val (.int .i64 e)]]),AV.val (.bool Xe),AV.val (.int .i64 0),AV.val (.bool Xe)]])])]) 0 (Zc (.padd 1) a 0 E0 []) []) 0 [.int .i64] fun (m:Int)=>
 Xa (m,0,(Zc .set (Zc (.app 7) (Zc .set b.2 0 (Zc (.padd 1) a 0 E0 []) [AV.val (.int .i64 (iop .add .i64 f 1))]) 0 g [AV.slice Xe 7 (E0++[[AV.val (.int .i64 h),AV.val (.int .i64 c),AV.val (.string d),AV.slice Xe 1 (E0++[[AV.val (.int .i64 e)]]),AV.val (.bool Xe),AV.val (.int .i64 0),AV.val (.bool Xe)]])]) 0 (Zc (.padd 0) a 0 E0 []) [Zd (Zc (.papp 57) (Zc .set b.2 0 (Zc (.padd 1) a 0 E0 []) [AV.val (.int .i64 (iop .add .i64 f 1))]) 0 g [AV.slice Xe 7 (E0++[[AV.val (.int .i64 h),AV.val (.int .i64 c),AV.val (.string d),AV.slice Xe 1 (E0++[[AV.val (.int .i64 e)]]),AV.val (.bool Xe),AV.val (.int .i64 0),AV.val (.bool Xe)]])])]))):=by kernel_rfl
noncomputable def F36:Fn:=⟨48,[6],[(7,[(2,.c (.int .i64)),(7,.c (.cel)),(8,.c (.int .i64)),(48,.sto)])],[],1,[],[],Xa 48,[42],[],Try.f36,([.c (.cel),.c (.int .i64),.c (.int .i64)]++Xg 45 .dead++[.sto]),[.c (.int .i64)],[(55,F55.S),(54,F54.S)]⟩
theorem Zxf:F36.S.Ok Try.prog 36:=F36.ok Try.func36 (by kernel_rfl) ⟨Zub,⟨Zv9,trivial⟩⟩
noncomputable def g36 (a:LL) (b:Int) (c:Int) (d:LL):Option (Int×LL):=F36.S.g [.l a,.i b,.i c,.l d]
noncomputable def ZqG (k:Nat) (a:Int) (b:LL) (c:Int) (d:LL):Option (Int×LL):=F36.lp [2,1,0,1,0] 0 r0 k [.i a,.l b,.i c,.l d]
theorem ZlQ (k:Nat) (c:Int) (a:LL) (e:Int) (b:LL):ZqG (k+1) c a e b =
 (Zf ((Zc .pnn a 0 E0 [])≠[])<|
 Zf ((Zc .pnn a 0 E0 [])≠[])<|
 Zk (Zc (.get 1) b 0 (Zc (.padd 3) a 0 E0 []) []) 0 [.slice 1] fun (f:LL)=>
 if (cop .lss e (Xn f:Int)) then
 Zf ((Zc .pnn a 0 E0 [])≠[])<|
 Zf ((Zc .pnn a 0 E0 [])≠[])<|
 Zk (Zc (.get 1) b 0 (Zc (.padd 3) a 0 E0 []) []) 0 [.slice 1] fun (d:LL)=>
 Zk d e [.int .i64] fun (g:Int)=>
 if (cop .eql g c) then
 Xa (56,b)
 else
 ZqG k c a (iop .add .i64 e 1) b
 else
 Zf ((Zc .pnn a 0 E0 [])≠[])<|
 Zf ((Zc .pnn a 0 E0 [])≠[])<|
 Zk (Zc (.get 1) b 0 (Zc (.padd 3) a 0 E0 []) []) 0 [.slice 1] fun (d:LL)=>
 Zf (Jp E0 d 8)<|
 Zf (Jp d (E0++[[AV.val (.int .i64 c)]]) 8)<|
 Zf ((Zc .pnn a 0 E0 [])≠[])<|
 Zf ((Zc .pnn a 0 E0 [])≠[])<|
 Zf ((Zc (.get 1) b 0 (Zc (.padd 3) a 0 E0 []) [])≠[])<|
 Xa (0,(Zc .set b 0 (Zc (.padd 3) a 0 E0 []) [AV.slice Xe 1 (d++(E0++[[AV.val (.int .i64 c)]]))]))):=by kernel_rfl
theorem Zuo (c:LL) (d:Int) (b:Int) (e:LL):g36 c d b e =
 ((g55 c d e).bind fun a=>
 Zf ((Zc .pisr a.1 0 E0 [])≠[])<|
 if (cop .eql (Xn (Zc .pnn a.1 0 E0 []):Int) 0) then
 Xa (17,a.2)
 else
 (g54 b).bind fun f=>
 if (!f) then
 Xa (1,a.2)
 else
 ZqG Jl b a.1 0 a.2):=by kernel_rfl
end Go.Proofs.Ytpjnmgjphfnmmaa
