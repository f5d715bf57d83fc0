import Derived.Test.YtpjnmgjphfnmmaaFWa
open Option renaming some→Xa
open Bool renaming false→Xc
open List renaming replicate→Xm,length→XT
set_option linter.unusedVariables false
set_option linter.unusedSimpArgs false
set_option linter.defProp false
namespace Go.Proofs.Ytpjnmgjphfnmmaa
open Go Go.AM
set_option maxRecDepth 100000
noncomputable def F51:Fn:=⟨4,[2],[],[],1,[1],[],Xa 4,[],[],Try.f51,([.c (.cel)]++Xm 3 .dead++[.sto]),[.c (.cel)],[]⟩
theorem Zul:F51.S.Ok Try.prog 51:=F51.ok Try.func51 (by kernel_rfl) trivial
noncomputable def g51 (a:LL) (b:LL):Option (LL×LL):=F51.S.g [.l a,.l b]
theorem Zsu (b:LL) (a:LL):g51 b a =
 (ZW ((Zf .pis0 (Zf .pnew a 0 E0 []) 0 E0 [])≠[])<|
 ZW ((Zf .pnn (Zf .pnew a 0 E0 []) 0 E0 [])≠[])<|
 Xa ((Zf (.pfnc 69) E0 0 E0 [Zk (Zf .pnew a 0 E0 [])]),(a++[[Zk b]]))):=by kernel_rfl
noncomputable def F50.S:Fun:=ZfC 69
theorem Zur:F50.S.Ok Try.prog 50:=ZiX
noncomputable def g50 (a b:LL):Option (LL×LL):=F50.S.g [.l a,.l b]
noncomputable def F29:Fn:=⟨9,[2],[],[],1,[],[],Xa 9,[22],[],Try.f29,([.c (.cel)]++Xm 8 .dead++[.sto]),[.c (.slice 1)],[(51,F51.S),(50,F50.S)]⟩
theorem ZtI:F29.S.Ok Try.prog 29:=F29.ok Try.func29 (by kernel_rfl) ⟨Zul,⟨Zur,trivial⟩⟩
noncomputable def g29 (a:LL) (b:LL):Option (LL×LL):=F29.S.g [.l a,.l b]
theorem Zr9 (a:LL) (b:LL):g29 a b =
 (ZW ((Zf .pnn a 0 E0 [])≠[])<|
 ZW ((Zf .pnn a 0 E0 [])≠[])<|
 Jn (Zf (.get 1) b 0 (Zf (.padd 0) a 0 E0 []) []) 0 [.cel] fun (e:LL)=>
 (g51 e b).bind fun c=>
 (g50 c.1 c.2).bind fun d=>
 Xa (d.1,d.2)):=by kernel_rfl
noncomputable def F14:Fn:=⟨25,[2],[(3,[(0,.c (.cel)),(3,.c (.own Xc 57)),(7,.c (.slice 1)),(8,.c (.int .i64)),(9,.c (.int .i64)),(25,.sto)])],[],1,[],[],Xa 25,[22],[],Try.f14,([.c (.cel)]++Xm 24 .dead++[.sto]),[.c (.own Xc 57)],[(29,F29.S),(31,F31.S)]⟩
theorem ZtU:F14.S.Ok Try.prog 14:=F14.ok Try.func14 (by kernel_rfl) ⟨ZtI,⟨Zuj,trivial⟩⟩
noncomputable def g14 (a:LL) (b:LL):Option (LL×LL):=F14.S.g [.l a,.l b]
noncomputable def Zpv (k:Nat) (a:LL) (b:LL) (c:LL) (d:Int) (e:Int) (f:LL):Option (LL×LL):=F14.lp [2] 0 r0 k [.l a,.l b,.l c,.i d,.i e,.l f]
theorem Zkh (k:Nat) (c:LL) (d:LL) (f:LL) (g:Int) (e:Int) (b:LL):Zpv (k+1) c d f g e b =
 (if (cop .lss e g) then
 Jn f e [.int .i64] fun (i:Int)=>
 ZW ((Zf .pnn c 0 E0 [])≠[])<|
 ZW ((Zf .pnn c 0 E0 [])≠[])<|
 Jn (Zf (.get 1) b 0 (Zf (.padd 0) c 0 E0 []) []) 0 [.cel] fun (h:LL)=>
 ZW ((Zf .mchk b 0 h [])≠[])<|
 (g31 (Zf .mget b i h []) b).bind fun a=>
 ZW (Zaz d (E0++[[AV.val (.int .i64 a.1),AV.val (.int .i64 a.2.1),AV.val (.string a.2.2.1),AV.slice Xc 1 a.2.2.2.1,AV.val (.bool a.2.2.2.2.1),AV.val (.int .i64 a.2.2.2.2.2.1),AV.val (.bool a.2.2.2.2.2.2.1)]]) 80)<|
 Zpv k c (d++(E0++[[AV.val (.int .i64 a.1),AV.val (.int .i64 a.2.1),AV.val (.string a.2.2.1),AV.slice Xc 1 a.2.2.2.1,AV.val (.bool a.2.2.2.2.1),AV.val (.int .i64 a.2.2.2.2.2.1),AV.val (.bool a.2.2.2.2.2.2.1)]])) f g (iop .add .i64 e 1) a.2.2.2.2.2.2.2
 else
 Xa (d,b)):=by kernel_rfl
theorem Zsf (a:LL) (c:LL):g14 a c =
 ((g29 a c).bind fun b=>
 Zpv ZeD a E0 b.1 (XT b.1:Int) 0 b.2):=by kernel_rfl
noncomputable def F66:Fn:=⟨21,[2],[],[],0,[],[],none,[],[],Try.f66,[.c (.int .u8)],[.c (.bool)],[]⟩
theorem ZtW:F66.S.Ok Try.prog 66:=F66.ok Try.func66 (by kernel_rfl) trivial
noncomputable def g66 (a:Int):Option (Bool):=F66.S.g [.i a]
theorem Ztb (a:Int):g66 a =
 (if (cop .geq a 97) then
 if (cop .leq a 122) then
 Xa (true)
 else
 if (cop .geq a 65) then
 if (cop .leq a 90) then
 Xa (true)
 else
 Xa ((cop .eql a 95))
 else
 Xa ((cop .eql a 95))
 else
 if (cop .geq a 65) then
 if (cop .leq a 90) then
 Xa (true)
 else
 Xa ((cop .eql a 95))
 else
 Xa ((cop .eql a 95))):=by kernel_rfl
noncomputable def F84:Fn:=⟨9,[2],[],[],0,[],[],none,[],[],Try.f84,[.c (.int .u8)],[.c (.bool)],[]⟩
theorem Zuq:F84.S.Ok Try.prog 84:=F84.ok Try.func84 (by kernel_rfl) trivial
noncomputable def g84 (a:Int):Option (Bool):=F84.S.g [.i a]
theorem ZsX (a:Int):g84 a =
 (if (cop .geq a 48) then
 Xa ((cop .leq a 57))
 else
 Xa (Xc)):=by kernel_rfl
noncomputable def F67:Fn:=⟨23,[2],[(2,[(0,.c (.str)),(3,.c (.int .i64))])],[],0,[],[],none,[],[],Try.f67,[.c (.str)],[.c (.int .i64)],[(66,F66.S),(84,F84.S)]⟩
theorem Zue:F67.S.Ok Try.prog 67:=F67.ok Try.func67 (by kernel_rfl) ⟨ZtW,⟨Zuq,trivial⟩⟩
noncomputable def g67 (a:ByteArray):Option (Int):=F67.S.g [.s a]
noncomputable def Zmt (k:Nat) (a:ByteArray) (b:Int):Option (Int):=F67.lp [0] 0 r0 k [.s a,.i b]
theorem ZjU (k:Nat) (b:ByteArray) (a:Int):Zmt (k+1) b a =
 (if (cop .lss a (ByteArray.size b:Int)) then
 ZW ((0:Int)≤a)<|
 ZW ((a:Int) < (ByteArray.size b:Int))<|
 (g66 (((ByteArray.data b).toList.getD (Int.toNat a) 0).toNat:Int)).bind fun c=>
 if c then
 Zmt k b (iop .add .i64 a 1)
 else
 ZW ((0:Int)≤a)<|
 ZW ((a:Int) < (ByteArray.size b:Int))<|
 (g84 (((ByteArray.data b).toList.getD (Int.toNat a) 0).toNat:Int)).bind fun d=>
 if d then
 Zmt k b (iop .add .i64 a 1)
 else
 Xa (a)
 else
 Xa (a)):=by kernel_rfl
theorem Zse (a:ByteArray):g67 a =
 (Zmt ZeD a 0):=by kernel_rfl
noncomputable def F49:Fn:=⟨17,[2],[],[],0,[],[],none,[],[],Try.f49,[.c (.str)],[.c (.bool)],[(66,F66.S),(67,F67.S)]⟩
theorem Zt9:F49.S.Ok Try.prog 49:=F49.ok Try.func49 (by kernel_rfl) ⟨ZtW,⟨Zue,trivial⟩⟩
noncomputable def g49 (a:ByteArray):Option (Bool):=F49.S.g [.s a]
theorem Zsd (a:ByteArray):g49 a =
 (if (!(ByteArray.toList a == ByteArray.toList (⟨#[]⟩:ByteArray))) then
 ZW ((0:Int)≤0)<|
 ZW ((0:Int) < (ByteArray.size a:Int))<|
 (g66 (((ByteArray.data a).toList.getD (Int.toNat 0) 0).toNat:Int)).bind fun b=>
 if b then
 (g67 a).bind fun c=>
 Xa ((cop .eql c (ByteArray.size a:Int)))
 else
 Xa (Xc)
 else
 Xa (Xc)):=by kernel_rfl
noncomputable def F28:Fn:=⟨10,[2],[],[],0,[],[],none,[],[],Try.f28,[.c (.str)],[.c (.bool)],[(49,F49.S)]⟩
theorem Zuk:F28.S.Ok Try.prog 28:=F28.ok Try.func28 (by kernel_rfl) ⟨Zt9,trivial⟩
noncomputable def g28 (a:ByteArray):Option (Bool):=F28.S.g [.s a]
theorem Zs3 (a:ByteArray):g28 a =
 ((g49 a).bind fun b=>
 if b then
 Xa ((cop .leq (ByteArray.size a:Int) 24))
 else
 Xa (Xc)):=by kernel_rfl
noncomputable def F10:Fn:=⟨59,[8,9],[],[],1,[54,52],[],Xa 59,[22],[],Try.f10,([.c (.cel),.c (.int .i64),.c (.str),.c (.int .i64)]++Xm 55 .dead++[.sto]),[.c (.int .i64),.c (.int .i64)],[(27,F27.S),(28,F28.S),(26,F26.S)]⟩
theorem ZtZ:F10.S.Ok Try.prog 10:=F10.ok Try.func10 (by kernel_rfl) ⟨Zty,⟨Zuk,⟨ZtX,trivial⟩⟩⟩
noncomputable def g10 (a:LL) (b:Int) (c:ByteArray) (d:Int) (e:LL):Option (Int×Int×LL):=F10.S.g [.l a,.i b,.s c,.i d,.l e]
theorem Zsa (a:LL) (e:Int) (f:ByteArray) (d:Int) (i:LL):g10 a e f d i =
 ((g27 a e i).bind fun b=>
 ZW ((Zf .pisr b.1 0 E0 [])≠[])<|
 if (cop .eql (XT (Zf .pnn b.1 0 E0 []):Int) 0) then
 Xa (0,17,b.2)
 else
 (g28 f).bind fun l=>
 if (!l) then
 Xa (0,63,b.2)
 else
 (g26 d).bind fun m=>
 if (!m) then
 Xa (0,1,b.2)
 else
 ZW ((Zf .pnn a 0 E0 [])≠[])<|
 ZW ((Zf .pnn a 0 E0 [])≠[])<|
 Jn (Zf (.get 1) b.2 0 (Zf (.padd 0) a 0 E0 []) []) 0 [.cel] fun (j:LL)=>
 ZW ((Zf .mchk b.2 0 j [])≠[])<|
 if (cop .eql (XT (Zf .mrows b.2 0 j []):Int) 64) then
 Xa (0,15,b.2)
 else
 ZW ((Zf .pnn a 0 E0 [])≠[])<|
 ZW ((Zf .pnn a 0 E0 [])≠[])<|
 Jn (Zf (.get 1) b.2 0 (Zf (.padd 1) a 0 E0 []) []) 0 [.int .i64] fun (c:Int)=>
 ZW ((Zf .pnn a 0 E0 [])≠[])<|
 ZW ((Zf .pnn a 0 E0 [])≠[])<|
 ZW ((Zf (.get 1) b.2 0 (Zf (.padd 1) a 0 E0 []) [])≠[])<|
 ZW ((Zf .pnn a 0 E0 [])≠[])<|
 ZW ((Zf .pnn a 0 E0 [])≠[])<|
 Jn (Zf (.get 1) (Zf .set b.2 0 (Zf (.padd 1) a 0 E0 []) [AV.val (.int .i64 (iop .add .i64 c 1))]) 0 (Zf (.padd 0) a 0 E0 []) []) 0 [.cel] fun (g:LL)=>
 ZW ((Zf .pnn a 0 E0 [])≠[])<|
 ZW ((Zf .pnn a 0 E0 [])≠[])<|
 Jn (Zf (.get 1) (Zf .set b.2 0 (Zf (.padd 1) a 0 E0 []) [AV.val (.int .i64 (iop .add .i64 c 1))]) 0 (Zf (.padd 1) a 0 E0 []) []) 0 [.int .i64] fun (k:Int)=>
 ZW ((Zf .pnn a 0 E0 [])≠[])<|
 ZW ((Zf .pnn a 0 E0 [])≠[])<|
 Jn (Zf (.get 1) (Zf .set b.2 0 (Zf (.padd 1) a 0 E0 []) [AV.val (.int .i64 (iop .add .i64 c 1))]) 0 (Zf (.padd 1) a 0 E0 []) []) 0 [.int .i64] fun (h:Int)=>
 ZW ((Zf .mchk (((Zf .set b.2 0 (Zf (.padd 1) a 0 E0 []) [AV.val (.int .i64 (iop .add .i64 c 1))])++[[AV.val (.int .i64 d)]])++[[AV.val (.int .i64 h),AV.val (.int .i64 e),AV.val (.string f),Zk (Zf (.parr 3) (Zf .set b.2 0 (Zf (.padd 1) a 0 E0 []) [AV.val (.int .i64 (iop .add .i64 c 1))]) 1 E0 []),AV.val (.bool Xc),AV.val (.int .i64 0),AV.val (.bool Xc)]]) 0 g [])≠[])<|
 ZW ((Zf .pis0 (Zf .pnew ((Zf .set b.2 0 (Zf (.padd 1) a 0 E0 []) [AV.val (.int .i64 (iop .add .i64 c 1))])++[[AV.val (.int .i64 d)]]) 0 E0 []) 0 E0 [])≠[])<|
 ZW ((Zf .pnn a 0 E0 [])≠[])<|
 ZW ((Zf .pnn a 0 E0 [])≠[])<|
 Jn (Zf (.get 1) (Zf .mput (((Zf .set b.2 0 (Zf (.padd 1) a 0 E0 []) [AV.val (.int .i64 (iop .add .i64 c 1))])++[[AV.val (.int .i64 d)]])++[[AV.val (.int .i64 h),AV.val (.int .i64 e),AV.val (.string f),Zk (Zf (.parr 3) (Zf .set b.2 0 (Zf (.padd 1) a 0 E0 []) [AV.val (.int .i64 (iop .add .i64 c 1))]) 1 E0 []),AV.val (.bool Xc),AV.val (.int .i64 0),AV.val (.bool Xc)]]) k g [Zk (Zf .pnew ((Zf .set b.2 0 (Zf (.padd 1) a 0 E0 []) [AV.val (.int .i64 (iop .add .i64 c 1))])++[[AV.val (.int .i64 d)]]) 0 E0 [])]) 0 (Zf (.padd 1) a 0 E0 []) []) 0 [.int .i64] fun (n:Int)=>
 Xa (n,0,(Zf .mput (((Zf .set b.2 0 (Zf (.padd 1) a 0 E0 []) [AV.val (.int .i64 (iop .add .i64 c 1))])++[[AV.val (.int .i64 d)]])++[[AV.val (.int .i64 h),AV.val (.int .i64 e),AV.val (.string f),Zk (Zf (.parr 3) (Zf .set b.2 0 (Zf (.padd 1) a 0 E0 []) [AV.val (.int .i64 (iop .add .i64 c 1))]) 1 E0 []),AV.val (.bool Xc),AV.val (.int .i64 0),AV.val (.bool Xc)]]) k g [Zk (Zf .pnew ((Zf .set b.2 0 (Zf (.padd 1) a 0 E0 []) [AV.val (.int .i64 (iop .add .i64 c 1))])++[[AV.val (.int .i64 d)]]) 0 E0 [])]))):=by kernel_rfl
end Go.Proofs.Ytpjnmgjphfnmmaa
