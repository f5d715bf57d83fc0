import Derived.Test.YtpjnmgjphfnmmaaFWa
open Option renaming some→Xa
open Bool renaming false→Xe
open List renaming replicate→Xg,length→Xn
open Int renaming toNat→Ux
set_option linter.unusedVariables false
set_option linter.unusedSimpArgs false
set_option linter.defProp false
namespace Go.Proofs.Ytpjnmgjphfnmmaa
open Go Go.AM
set_option maxRecDepth 100000
noncomputable def F51:Fn:=⟨4,[2],[],[],1,[1],[],Xa 4,[],[],Try.f51,([.c (.cel)]++Xg 3 .dead++[.sto]),[.c (.cel)],[]⟩
theorem ZxN:F51.S.Ok Try.prog 51:=F51.ok Try.func51 (by kernel_rfl) trivial
noncomputable def g51 (a:LL) (b:LL):Option (LL×LL):=F51.S.g [.l a,.l b]
theorem ZuW (b:LL) (a:LL):g51 b a =
 (Zf ((Zc .pis0 (Zc .pnew a 0 E0 []) 0 E0 [])≠[])<|
 Zf ((Zc .pnn (Zc .pnew a 0 E0 []) 0 E0 [])≠[])<|
 Xa ((Zc (.pfnc 69) E0 0 E0 [Zd (Zc .pnew a 0 E0 [])]),(a++[[Zd b]]))):=by kernel_rfl
noncomputable def F50.S:Fun:=ZfL 69
theorem Zxm:F50.S.Ok Try.prog 50:=ZjU
noncomputable def g50 (a b:LL):Option (LL×LL):=F50.S.g [.l a,.l b]
noncomputable def F29:Fn:=⟨9,[2],[],[],1,[],[],Xa 9,[22],[],Try.f29,([.c (.cel)]++Xg 8 .dead++[.sto]),[.c (.slice 1)],[(51,F51.S),(50,F50.S)]⟩
theorem Zuj:F29.S.Ok Try.prog 29:=F29.ok Try.func29 (by kernel_rfl) ⟨ZxN,⟨Zxm,trivial⟩⟩
noncomputable def g29 (a:LL) (b:LL):Option (LL×LL):=F29.S.g [.l a,.l b]
theorem ZuD (a:LL) (b:LL):g29 a b =
 (Zf ((Zc .pnn a 0 E0 [])≠[])<|
 Zf ((Zc .pnn a 0 E0 [])≠[])<|
 Zk (Zc (.get 1) b 0 (Zc (.padd 0) a 0 E0 []) []) 0 [.cel] fun (e:LL)=>
 (g51 e b).bind fun c=>
 (g50 c.1 c.2).bind fun d=>
 Xa (d.1,d.2)):=by kernel_rfl
noncomputable def F14:Fn:=⟨25,[2],[(3,[(0,.c (.cel)),(3,.c (.own Xe 57)),(7,.c (.slice 1)),(8,.c (.int .i64)),(9,.c (.int .i64)),(25,.sto)])],[],1,[],[],Xa 25,[22],[],Try.f14,([.c (.cel)]++Xg 24 .dead++[.sto]),[.c (.own Xe 57)],[(29,F29.S),(31,F31.S)]⟩
theorem Zw0:F14.S.Ok Try.prog 14:=F14.ok Try.func14 (by kernel_rfl) ⟨Zuj,⟨ZxO,trivial⟩⟩
noncomputable def g14 (a:LL) (b:LL):Option (LL×LL):=F14.S.g [.l a,.l b]
noncomputable def Zq2 (k:Nat) (a:LL) (b:LL) (c:LL) (d:Int) (e:Int) (f:LL):Option (LL×LL):=F14.lp [2] 0 r0 k [.l a,.l b,.l c,.i d,.i e,.l f]
theorem Zj6 (k:Nat) (c:LL) (d:LL) (f:LL) (g:Int) (e:Int) (b:LL):Zq2 (k+1) c d f g e b =
 (if (cop .lss e g) then
 Zk f e [.int .i64] fun (i:Int)=>
 Zf ((Zc .pnn c 0 E0 [])≠[])<|
 Zf ((Zc .pnn c 0 E0 [])≠[])<|
 Zk (Zc (.get 1) b 0 (Zc (.padd 0) c 0 E0 []) []) 0 [.cel] fun (h:LL)=>
 Zf ((Zc .mchk b 0 h [])≠[])<|
 (g31 (Zc .mget b i h []) b).bind fun a=>
 Zf (Jp d (E0++[[AV.val (.int .i64 a.1),AV.val (.int .i64 a.2.1),AV.val (.string a.2.2.1),AV.slice Xe 1 a.2.2.2.1,AV.val (.bool a.2.2.2.2.1),AV.val (.int .i64 a.2.2.2.2.2.1),AV.val (.bool a.2.2.2.2.2.2.1)]]) 80)<|
 Zq2 k c (d++(E0++[[AV.val (.int .i64 a.1),AV.val (.int .i64 a.2.1),AV.val (.string a.2.2.1),AV.slice Xe 1 a.2.2.2.1,AV.val (.bool a.2.2.2.2.1),AV.val (.int .i64 a.2.2.2.2.2.1),AV.val (.bool a.2.2.2.2.2.2.1)]])) f g (iop .add .i64 e 1) a.2.2.2.2.2.2.2
 else
 Xa (d,b)):=by kernel_rfl
theorem ZvT (a:LL) (c:LL):g14 a c =
 ((g29 a c).bind fun b=>
 Zq2 Jl a E0 b.1 (Xn b.1:Int) 0 b.2):=by kernel_rfl
noncomputable def F66:Fn:=⟨21,[2],[],[],0,[],[],none,[],[],Try.f66,[.c (.int .u8)],[.c (.bool)],[]⟩
theorem ZwT:F66.S.Ok Try.prog 66:=F66.ok Try.func66 (by kernel_rfl) trivial
noncomputable def g66 (a:Int):Option (Bool):=F66.S.g [.i a]
theorem Zui (a:Int):g66 a =
 (if (cop .geq a 97) then
 if (cop .leq a 122) then
 Xa (true)
 else
 if (cop .geq a 65) then
 if (cop .leq a 90) then
 Xa (true)
 else
 Xa ((cop .eql a 95))
 else
 Xa ((cop .eql a 95))
 else
 if (cop .geq a 65) then
 if (cop .leq a 90) then
 Xa (true)
 else
 Xa ((cop .eql a 95))
 else
 Xa ((cop .eql a 95))):=by kernel_rfl
noncomputable def F84:Fn:=⟨9,[2],[],[],0,[],[],none,[],[],Try.f84,[.c (.int .u8)],[.c (.bool)],[]⟩
theorem Zx6:F84.S.Ok Try.prog 84:=F84.ok Try.func84 (by kernel_rfl) trivial
noncomputable def g84 (a:Int):Option (Bool):=F84.S.g [.i a]
theorem Zvq (a:Int):g84 a =
 (if (cop .geq a 48) then
 Xa ((cop .leq a 57))
 else
 Xa (Xe)):=by kernel_rfl
noncomputable def F67:Fn:=⟨23,[2],[(2,[(0,.c (.str)),(3,.c (.int .i64))])],[],0,[],[],none,[],[],Try.f67,[.c (.str)],[.c (.int .i64)],[(66,F66.S),(84,F84.S)]⟩
theorem ZxB:F67.S.Ok Try.prog 67:=F67.ok Try.func67 (by kernel_rfl) ⟨ZwT,⟨Zx6,trivial⟩⟩
noncomputable def g67 (a:ByteArray):Option (Int):=F67.S.g [.s a]
noncomputable def ZpG (k:Nat) (a:ByteArray) (b:Int):Option (Int):=F67.lp [0] 0 r0 k [.s a,.i b]
theorem ZkF (k:Nat) (b:ByteArray) (a:Int):ZpG (k+1) b a =
 (if (cop .lss a (ByteArray.size b:Int)) then
 Zf ((0:Int)≤a)<|
 Zf ((a:Int) < (ByteArray.size b:Int))<|
 (g66 (((ByteArray.data b).toList.getD (Ux a) 0).toNat:Int)).bind fun c=>
 if c then
 ZpG k b (iop .add .i64 a 1)
 else
 Zf ((0:Int)≤a)<|
 Zf ((a:Int) < (ByteArray.size b:Int))<|
 (g84 (((ByteArray.data b).toList.getD (Ux a) 0).toNat:Int)).bind fun d=>
 if d then
 ZpG k b (iop .add .i64 a 1)
 else
 Xa (a)
 else
 Xa (a)):=by kernel_rfl
theorem Zuh (a:ByteArray):g67 a =
 (ZpG Jl a 0):=by kernel_rfl
noncomputable def F49:Fn:=⟨17,[2],[],[],0,[],[],none,[],[],Try.f49,[.c (.str)],[.c (.bool)],[(66,F66.S),(67,F67.S)]⟩
theorem Zx7:F49.S.Ok Try.prog 49:=F49.ok Try.func49 (by kernel_rfl) ⟨ZwT,⟨ZxB,trivial⟩⟩
noncomputable def g49 (a:ByteArray):Option (Bool):=F49.S.g [.s a]
theorem Zvm (a:ByteArray):g49 a =
 (if (!(ByteArray.toList a == ByteArray.toList (⟨#[]⟩:ByteArray))) then
 Zf ((0:Int)≤0)<|
 Zf ((0:Int) < (ByteArray.size a:Int))<|
 (g66 (((ByteArray.data a).toList.getD (Ux 0) 0).toNat:Int)).bind fun b=>
 if b then
 (g67 a).bind fun c=>
 Xa ((cop .eql c (ByteArray.size a:Int)))
 else
 Xa (Xe)
 else
 Xa (Xe)):=by kernel_rfl
noncomputable def F28:Fn:=⟨10,[2],[],[],0,[],[],none,[],[],Try.f28,[.c (.str)],[.c (.bool)],[(49,F49.S)]⟩
theorem ZxC:F28.S.Ok Try.prog 28:=F28.ok Try.func28 (by kernel_rfl) ⟨Zx7,trivial⟩
noncomputable def g28 (a:ByteArray):Option (Bool):=F28.S.g [.s a]
theorem ZvK (a:ByteArray):g28 a =
 ((g49 a).bind fun b=>
 if b then
 Xa ((cop .leq (ByteArray.size a:Int) 24))
 else
 Xa (Xe)):=by kernel_rfl
noncomputable def F10:Fn:=⟨59,[8,9],[],[],1,[54,52],[],Xa 59,[22],[],Try.f10,([.c (.cel),.c (.int .i64),.c (.str),.c (.int .i64)]++Xg 55 .dead++[.sto]),[.c (.int .i64),.c (.int .i64)],[(27,F27.S),(28,F28.S),(26,F26.S)]⟩
theorem Zw8:F10.S.Ok Try.prog 10:=F10.ok Try.func10 (by kernel_rfl) ⟨Zua,⟨ZxC,⟨Zwd,trivial⟩⟩⟩
noncomputable def g10 (a:LL) (b:Int) (c:ByteArray) (d:Int) (e:LL):Option (Int×Int×LL):=F10.S.g [.l a,.i b,.s c,.i d,.l e]
theorem ZrG (a:LL) (e:Int) (f:ByteArray) (d:Int) (i:LL):g10 a e f d i =
 ((g27 a e i).bind fun b=>
 Zf ((Zc .pisr b.1 0 E0 [])≠[])<|
 if (cop .eql (Xn (Zc .pnn b.1 0 E0 []):Int) 0) then
 Xa (0,17,b.2)
 else
 (g28 f).bind fun l=>
 if (!l) then
 Xa (0,63,b.2)
 else
 (g26 d).bind fun m=>
 if (!m) then
 Xa (0,1,b.2)
 else
 Zf ((Zc .pnn a 0 E0 [])≠[])<|
 Zf ((Zc .pnn a 0 E0 [])≠[])<|
 Zk (Zc (.get 1) b.2 0 (Zc (.padd 0) a 0 E0 []) []) 0 [.cel] fun (j:LL)=>
 Zf ((Zc .mchk b.2 0 j [])≠[])<|
 if (cop .eql (Xn (Zc .mrows b.2 0 j []):Int) 64) then
 Xa (0,15,b.2)
 else
 Zf ((Zc .pnn a 0 E0 [])≠[])<|
 Zf ((Zc .pnn a 0 E0 [])≠[])<|
 Zk (Zc (.get 1) b.2 0 (Zc (.padd 1) a 0 E0 []) []) 0 [.int .i64] fun (c:Int)=>
 Zf ((Zc .pnn a 0 E0 [])≠[])<|
 Zf ((Zc .pnn a 0 E0 [])≠[])<|
 Zf ((Zc (.get 1) b.2 0 (Zc (.padd 1) a 0 E0 []) [])≠[])<|
 Zf ((Zc .pnn a 0 E0 [])≠[])<|
 Zf ((Zc .pnn a 0 E0 [])≠[])<|
 Zk (Zc (.get 1) (Zc .set b.2 0 (Zc (.padd 1) a 0 E0 []) [AV.val (.int .i64 (iop .add .i64 c 1))]) 0 (Zc (.padd 0) a 0 E0 []) []) 0 [.cel] fun (g:LL)=>
 Zf ((Zc .pnn a 0 E0 [])≠[])<|
 Zf ((Zc .pnn a 0 E0 [])≠[])<|
 Zk (Zc (.get 1) (Zc .set b.2 0 (Zc (.padd 1) a 0 E0 []) [AV.val (.int .i64 (iop .add .i64 c 1))]) 0 (Zc (.padd 1) a 0 E0 []) []) 0 [.int .i64] fun (k:Int)=>
 Zf ((Zc .pnn a 0 E0 [])≠[])<|
 Zf ((Zc .pnn a 0 E0 [])≠[])<|
 Zk (Zc (.get 1) (Zc .set b.2 0 (Zc (.padd 1) a 0 E0 []) [AV.val (.int .i64 (iop .add .i64 c 1))]) 0 (Zc (.padd 1) a 0 E0 []) []) 0 [.int .i64] fun (h:Int)=>
 Zf ((Zc .mchk (((Zc .set b.2 0 (Zc (.padd 1) a 0 E0 []) [AV.val (.int .i64 (iop .add .i64 c 1))])++[[AV.val (.int .i64 d)]])++[[AV.val (.int .i64 h),AV.val (.int .i64 e),AV.val (.string f),Zd (Zc (.parr 3) (Zc .set b.2 0 (Zc (.padd 1) a 0 E0 []) [AV.val (.int .i64 (iop .add .i64 c 1))]) 1 E0 []),AV.val (.bool Xe),AV.val (.int .i64 0),AV.val (.bool Xe)]]) 0 g [])≠[])<|
 Zf ((Zc .pis0 (Zc .pnew ((Zc .set b.2 0 (Zc (.padd 1) a 0 E0 []) [AV.val (.int .i64 (iop .add .i64 c 1))])++[[AV.val (.int .i64 d)]]) 0 E0 []) 0 E0 [])≠[])<|
 Zf ((Zc .pnn a 0 E0 [])≠[])<|
 Zf ((Zc .pnn a 0 E0 [])≠[])<|
 Zk (Zc (.get 1) (Zc .mput (((Zc .set b.2 0 (Zc (.padd 1) a 0 E0 []) [AV.val (.int .i64 (iop .add .i64 c 1))])++[[AV.val (.int .i64 d)]])++[[AV.val (.int .i64 h),AV.val (.int .i64 e),AV.val (.string f),Zd (Zc (.parr 3) (Zc .set b.2 0 (Zc (.padd 1) a 0 E0 []) [AV.val (.int .i64 (iop .add .i64 c 1))]) 1 E0 []),AV.val (.bool Xe),AV.val (.int .i64 0),AV.val (.bool Xe)]]) k g [Zd (Zc .pnew ((Zc .set b.2 0 (Zc (.padd 1) a 0 E0 []) [AV.val (.int .i64 (iop .add .i64 c 1))])++[[AV.val (.int .i64 d)]]) 0 E0 [])]) 0 (Zc (.padd 1) a 0 E0 []) []) 0 [.int .i64] fun (n:Int)=>
 Xa (n,0,(Zc .mput (((Zc .set b.2 0 (Zc (.padd 1) a 0 E0 []) [AV.val (.int .i64 (iop .add .i64 c 1))])++[[AV.val (.int .i64 d)]])++[[AV.val (.int .i64 h),AV.val (.int .i64 e),AV.val (.string f),Zd (Zc (.parr 3) (Zc .set b.2 0 (Zc (.padd 1) a 0 E0 []) [AV.val (.int .i64 (iop .add .i64 c 1))]) 1 E0 []),AV.val (.bool Xe),AV.val (.int .i64 0),AV.val (.bool Xe)]]) k g [Zd (Zc .pnew ((Zc .set b.2 0 (Zc (.padd 1) a 0 E0 []) [AV.val (.int .i64 (iop .add .i64 c 1))])++[[AV.val (.int .i64 d)]]) 0 E0 [])]))):=by kernel_rfl
noncomputable def F64:Fn:=⟨19,[4],[(2,[(0,.c (.cel)),(1,.c (.int .i64)),(7,.c (.int .i64)),(8,.c (.int .i64)),(19,.sto)])],[],1,[],[],Xa 19,[],[],Try.f64,([.c (.cel),.c (.int .i64)]++Xg 17 .dead++[.sto]),[.c (.int .i64)],[]⟩
theorem ZxR:F64.S.Ok Try.prog 64:=F64.ok Try.func64 (by kernel_rfl) trivial
noncomputable def g64 (a:LL) (b:Int) (c:LL):Option (Int×LL):=F64.S.g [.l a,.i b,.l c]
noncomputable def Zqm (k:Nat) (a:LL) (b:Int) (c:Int) (d:Int) (e:LL):Option (Int×LL):=F64.lp [2] 0 r0 k [.l a,.i b,.i c,.i d,.l e]
theorem ZkW (k:Nat) (c:LL) (d:Int) (e:Int) (a:Int) (b:LL):Zqm (k+1) c d e a b =
 (if (cop .lss a e) then
 Zf ((0:Int)≤a)<|
 Zf ((a:Int) < (Xn (Zc .plen c 0 E0 []):Int))<|
 Zk (Zc (.get 1) b 0 (Zc (.pidx 1) c a E0 []) []) 0 [.int .i64] fun (f:Int)=>
 if (cop .eql d f) then
 Xa (a,b)
 else
 Zqm k c d e (iop .add .i64 a 1) b
 else
 Xa ((-1),b)):=by kernel_rfl
theorem ZuM (a:LL) (b:Int) (c:LL):g64 a b c =
 (Zf ((Zc .pisl a 0 E0 [])≠[])<|
 Zqm Jl a b (Xn (Zc .plen a 0 E0 []):Int) 0 c):=by kernel_rfl
noncomputable def F44:Fn:=⟨9,[4],[],[],1,[],[],Xa 9,[],[],Try.f44,([.c (.cel),.c (.int .i64)]++Xg 7 .dead++[.sto]),[.c (.bool)],[(64,F64.S)]⟩
theorem Zw4:F44.S.Ok Try.prog 44:=F44.ok Try.func44 (by kernel_rfl) ⟨ZxR,trivial⟩
noncomputable def g44 (a:LL) (b:Int) (c:LL):Option (Bool×LL):=F44.S.g [.l a,.i b,.l c]
theorem ZuL (a:LL) (b:Int) (c:LL):g44 a b c =
 ((g64 a b c).bind fun d=>
 Xa ((cop .geq d.1 0),d.2)):=by kernel_rfl
noncomputable def F43.S:Fun:=Zpf
theorem ZwY:F43.S.Ok Try.prog 43:=ZoD
noncomputable def g43 (a b:LL):Option LL:=F43.S.g [.l a,.l b]
noncomputable def F35:Fn:=⟨40,[6],[],[],1,[],[],Xa 40,[22],[],Try.f35,([.c (.cel),.c (.int .i64),.c (.int .i64)]++Xg 37 .dead++[.sto]),[.c (.int .i64)],[(27,F27.S),(26,F26.S),(44,F44.S),(43,F43.S)]⟩
theorem Zx4:F35.S.Ok Try.prog 35:=F35.ok Try.func35 (by kernel_rfl) ⟨Zua,⟨Zwd,⟨Zw4,⟨ZwY,trivial⟩⟩⟩⟩
noncomputable def g35 (a:LL) (b:Int) (c:Int) (d:LL):Option (Int×LL):=F35.S.g [.l a,.i b,.i c,.l d]
theorem ZrH (e:LL) (f:Int) (b:Int) (g:LL):g35 e f b g =
 ((g27 e f g).bind fun a=>
 Zf ((Zc .pisr a.1 0 E0 [])≠[])<|
 if (cop .eql (Xn (Zc .pnn a.1 0 E0 []):Int) 0) then
 Xa (17,a.2)
 else
 (g26 b).bind fun h=>
 if (!h) then
 Xa (1,a.2)
 else
 Zf ((Zc .pnn a.1 0 E0 [])≠[])<|
 Zf ((Zc .pnn a.1 0 E0 [])≠[])<|
 Zk (Zc (.get 1) a.2 0 (Zc (.padd 3) a.1 0 E0 []) []) 0 [.cel] fun (i:LL)=>
 (g44 i b a.2).bind fun c=>
 if c.1 then
 Xa (56,c.2)
 else
 Zf ((Zc .pnn a.1 0 E0 [])≠[])<|
 Zf ((Zc .pnn a.1 0 E0 [])≠[])<|
 Zk (Zc (.get 1) c.2 0 (Zc (.padd 3) a.1 0 E0 []) []) 0 [.cel] fun (d:LL)=>
 Zf ((E0++[[AV.val (.int .i64 b)]])≠[])<|
 Zf ((Zc (.vchk 3 1) c.2 0 d [])≠[])<|
 Zf (Jp (Zc .plen d 0 E0 []) (E0++[[AV.val (.int .i64 b)]]) 8)<|
 Zf ((Zc .pnn a.1 0 E0 [])≠[])<|
 Zf ((Zc .pnn a.1 0 E0 [])≠[])<|
 Zf ((Zc (.get 1) (Zc (.app 1) c.2 0 d [AV.slice Xe 1 (E0++[[AV.val (.int .i64 b)]])]) 0 (Zc (.padd 3) a.1 0 E0 []) [])≠[])<|
 Zf ((Zc .pnn a.1 0 E0 [])≠[])<|
 Zf ((Zc .pnn a.1 0 E0 [])≠[])<|
 Zk (Zc (.get 1) (Zc .set (Zc (.app 1) c.2 0 d [AV.slice Xe 1 (E0++[[AV.val (.int .i64 b)]])]) 0 (Zc (.padd 3) a.1 0 E0 []) [Zd (Zc (.papp 3) c.2 0 d [AV.slice Xe 1 (E0++[[AV.val (.int .i64 b)]])])]) 0 (Zc (.padd 3) a.1 0 E0 []) []) 0 [.cel] fun (j:LL)=>
 (g43 j (Zc .set (Zc (.app 1) c.2 0 d [AV.slice Xe 1 (E0++[[AV.val (.int .i64 b)]])]) 0 (Zc (.padd 3) a.1 0 E0 []) [Zd (Zc (.papp 3) c.2 0 d [AV.slice Xe 1 (E0++[[AV.val (.int .i64 b)]])])])).bind fun k=>
 Xa (0,k)):=by kernel_rfl
end Go.Proofs.Ytpjnmgjphfnmmaa
