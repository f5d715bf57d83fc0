import Derived.Test.YtpjnmgjphfnmmaaFWe
open Option renaming some→Xa
open Bool renaming true→Xb,false→Xe
open List renaming replicate→Xg,length→Xn
open Int renaming toNat→Ux
set_option linter.unusedVariables false
set_option linter.unusedSimpArgs false
set_option linter.defProp false
namespace Go.Proofs.Ytpjnmgjphfnmmaa
open Go Go.AM
set_option maxRecDepth 100000
noncomputable def F61:Fn:=⟨39,[],[(2,[(0,.c (.cel)),(1,.c (.int .i64)),(4,.c (.own Xb 57)),(5,.c (.int .i64)),(39,.sto)])],[],1,[],[],Xa 39,[42],[],Try.f61,([.c (.cel),.c (.int .i64)]++Xg 37 .dead++[.sto]),[],[]⟩
theorem Zxa:F61.S.Ok Try.prog 61:=F61.ok Try.func61 (by kernel_rfl) trivial
noncomputable def g61 (a:LL) (b:Int) (c:LL):Option (LL):=F61.S.g [.l a,.i b,.l c]
noncomputable def ZpJ (k:Nat) (a:LL) (b:Int) (c:LL) (d:Int) (e:LL):Option (LL):=F61.lp [0] 0 r0 k [.l a,.i b,.l c,.i d,.l e]
theorem ZkE (k:Nat) (a:LL) (f:Int) (e:LL) (c:Int) (d:LL):ZpJ (k+1) a f e c d =
 (Zf ((Zc .pnn a 0 E0 [])≠[])<|
 Zf ((Zc .pnn a 0 E0 [])≠[])<|
 Zk (Zc (.get 1) d 0 (Zc (.padd 0) a 0 E0 []) []) 0 [.cel] fun (h:LL)=>
 Zf ((Zc .pisl h 0 E0 [])≠[])<|
 if (cop .lss c (Xn (Zc .plen h 0 E0 []):Int)) then
 Zf ((Zc .pnn a 0 E0 [])≠[])<|
 Zf ((Zc .pnn a 0 E0 [])≠[])<|
 Zk (Zc (.get 1) d 0 (Zc (.padd 0) a 0 E0 []) []) 0 [.cel] fun (g:LL)=>
 Zf ((0:Int)≤c)<|
 Zf ((c:Int) < (Xn (Zc .plen g 0 E0 []):Int))<|
 Zf ((Zc .pnn (Zc (.pidx 7) g c E0 []) 0 E0 [])≠[])<|
 Zk (Zc (.get 1) d 0 (Zc (.padd 0) (Zc (.pidx 7) g c E0 []) 0 E0 []) []) 0 [.int .i64] fun (j:Int)=>
 if (cop .neq j f) then
 Zf ((Zc .pnn a 0 E0 [])≠[])<|
 Zf ((Zc .pnn a 0 E0 [])≠[])<|
 Zk (Zc (.get 1) d 0 (Zc (.padd 0) a 0 E0 []) []) 0 [.cel] fun (i:LL)=>
 Zf ((0:Int)≤c)<|
 Zf ((c:Int) < (Xn (Zc .plen i 0 E0 []):Int))<|
 Zk (Zc (.get 7) d 0 (Zc (.pidx 7) i c E0 []) []) 0 [.int .i64,.int .i64,.str,.slice 1,.bool,.int .i64,.bool] fun (b:Int×Int×ByteArray×LL×Bool×Int×Bool)=>
 Zf (Jp e (E0++[[AV.val (.int .i64 b.1),AV.val (.int .i64 b.2.1),AV.val (.string b.2.2.1),AV.slice Xe 1 b.2.2.2.1,AV.val (.bool b.2.2.2.2.1),AV.val (.int .i64 b.2.2.2.2.2.1),AV.val (.bool b.2.2.2.2.2.2)]]) 80)<|
 ZpJ k a f (e++(E0++[[AV.val (.int .i64 b.1),AV.val (.int .i64 b.2.1),AV.val (.string b.2.2.1),AV.slice Xe 1 b.2.2.2.1,AV.val (.bool b.2.2.2.2.1),AV.val (.int .i64 b.2.2.2.2.2.1),AV.val (.bool b.2.2.2.2.2.2)]])) (iop .add .i64 c 1) d
 else
 ZpJ k a f e (iop .add .i64 c 1) d
 else
 Zf ((Zc .pnn a 0 E0 [])≠[])<|
 Zf ((Zc .pnn a 0 E0 [])≠[])<|
 Zf (e≠[])<|
 Zf ((Zc (.get 1) d 0 (Zc (.padd 0) a 0 E0 []) [])≠[])<|
 Xa ((Zc .set (Zc .push d 0 e []) 0 (Zc (.padd 0) a 0 E0 []) [Zd (Zc (.parr 57) d (Xn e:Int) E0 [])]))):=by kernel_rfl
theorem Zvj (a:LL) (b:Int) (c:LL):g61 a b c =
 (ZpJ Jl a b E0 0 c):=by kernel_rfl
noncomputable def F71:Fn:=⟨50,[4],[],[],1,[],[],Xa 50,[42],[],Try.f71,([.c (.cel),.c (.int .i64)]++Xg 48 .dead++[.sto]),[.c (.own Xe 35)],[(60,F60.S),(61,F61.S)]⟩
theorem Zxe:F71.S.Ok Try.prog 71:=F71.ok Try.func71 (by kernel_rfl) ⟨Zu6,⟨Zxa,trivial⟩⟩
noncomputable def g71 (a:LL) (b:Int) (c:LL):Option (LL×LL):=F71.S.g [.l a,.i b,.l c]
theorem Zvs (d:LL) (c:Int) (e:LL):g71 d c e =
 ((g60 d c e).bind fun a=>
 Zf ((Zc .pisr a.1 0 E0 [])≠[])<|
 if (cop .eql (Xn (Zc .pnn a.1 0 E0 []):Int) 0) then
 Xa (E0,a.2)
 else
 if (cop .eql c 1) then
 Xa (E0,a.2)
 else
 Zf ((Zc .pnn a.1 0 E0 [])≠[])<|
 Zf ((Zc .pnn a.1 0 E0 [])≠[])<|
 Zk (Zc (.get 1) a.2 0 (Zc (.padd 1) a.1 0 E0 []) []) 0 [.int .i64] fun (f:Int)=>
 Zf ((Zc .pnn a.1 0 E0 [])≠[])<|
 Zf ((Zc .pnn a.1 0 E0 [])≠[])<|
 Zk (Zc (.get 1) a.2 0 (Zc (.padd 5) a.1 0 E0 []) []) 0 [.int .i64] fun (g:Int)=>
 Zf ((Zc .pnn a.1 0 E0 [])≠[])<|
 Zf ((Zc .pnn a.1 0 E0 [])≠[])<|
 Zk (Zc (.get 1) a.2 0 (Zc (.padd 1) a.1 0 E0 []) []) 0 [.int .i64] fun (h:Int)=>
 (g60 d h a.2).bind fun b=>
 Zf ((Zc .pisr b.1 0 E0 [])≠[])<|
 if (cop .eql (Xn (Zc .pnn b.1 0 E0 []):Int) 0) then
 Xa (E0,b.2)
 else
 Zf ((Zc .pnn b.1 0 E0 [])≠[])<|
 Zf ((Zc .pnn b.1 0 E0 [])≠[])<|
 Zk (Zc (.get 1) b.2 0 (Zc (.padd 6) b.1 0 E0 []) []) 0 [.bool] fun (i:Bool)=>
 if (!i) then
 Xa (E0,b.2)
 else
 Zf ((Zc .pnn b.1 0 E0 [])≠[])<|
 Zf ((Zc .pnn b.1 0 E0 [])≠[])<|
 Zf ((Zc (.get 1) b.2 0 (Zc (.padd 6) b.1 0 E0 []) [])≠[])<|
 (g61 d c (Zc .set b.2 0 (Zc (.padd 6) b.1 0 E0 []) [AV.val (.bool Xe)])).bind fun j=>
 Xa ((E0++[[AV.val (.int .i64 f),AV.val (.int .i64 c),AV.val (.int .i64 g)]]),j)):=by kernel_rfl
noncomputable def F59:Fn:=⟨49,[4],[(3,[(0,.c (.cel)),(1,.c (.int .i64)),(5,.c (.own Xe 3)),(6,.c (.int .i64)),(49,.sto)])],[],1,[],[],Xa 49,[42],[],Try.f59,([.c (.cel),.c (.int .i64)]++Xg 47 .dead++[.sto]),[.c (.own Xe 3)],[]⟩
theorem ZwA:F59.S.Ok Try.prog 59:=F59.ok Try.func59 (by kernel_rfl) trivial
noncomputable def g59 (a:LL) (b:Int) (c:LL):Option (LL×LL):=F59.S.g [.l a,.i b,.l c]
noncomputable def Zmx (k:Nat) (a:LL) (b:Int) (c:LL) (d:Int) (e:LL):Option (LL×LL):=F59.lp [0] 0 r0 k [.l a,.i b,.l c,.i d,.l e]
theorem ZkU (k:Nat) (b:LL) (e:Int) (d:LL) (a:Int) (c:LL):Zmx (k+1) b e d a c =
 (Zf ((Zc .pnn b 0 E0 [])≠[])<|
 Zf ((Zc .pnn b 0 E0 [])≠[])<|
 Zk (Zc (.get 1) c 0 (Zc (.padd 0) b 0 E0 []) []) 0 [.cel] fun (i:LL)=>
 Zf ((Zc .pisl i 0 E0 [])≠[])<|
 if (cop .lss a (Xn (Zc .plen i 0 E0 []):Int)) then
 Zf ((Zc .pnn b 0 E0 [])≠[])<|
 Zf ((Zc .pnn b 0 E0 [])≠[])<|
 Zk (Zc (.get 1) c 0 (Zc (.padd 0) b 0 E0 []) []) 0 [.cel] fun (f:LL)=>
 Zf ((0:Int)≤a)<|
 Zf ((a:Int) < (Xn (Zc .plen f 0 E0 []):Int))<|
 Zf ((Zc .pnn (Zc (.pidx 7) f a E0 []) 0 E0 [])≠[])<|
 Zk (Zc (.get 1) c 0 (Zc (.padd 1) (Zc (.pidx 7) f a E0 []) 0 E0 []) []) 0 [.int .i64] fun (l:Int)=>
 if (cop .eql l e) then
 Zf ((Zc .pnn b 0 E0 [])≠[])<|
 Zf ((Zc .pnn b 0 E0 [])≠[])<|
 Zk (Zc (.get 1) c 0 (Zc (.padd 0) b 0 E0 []) []) 0 [.cel] fun (g:LL)=>
 Zf ((0:Int)≤a)<|
 Zf ((a:Int) < (Xn (Zc .plen g 0 E0 []):Int))<|
 Zf ((Zc .pnn (Zc (.pidx 7) g a E0 []) 0 E0 [])≠[])<|
 Zk (Zc (.get 1) c 0 (Zc (.padd 0) (Zc (.pidx 7) g a E0 []) 0 E0 []) []) 0 [.int .i64] fun (m:Int)=>
 if (cop .neq m 1) then
 Zf ((Zc .pnn b 0 E0 [])≠[])<|
 Zf ((Zc .pnn b 0 E0 [])≠[])<|
 Zk (Zc (.get 1) c 0 (Zc (.padd 0) b 0 E0 []) []) 0 [.cel] fun (h:LL)=>
 Zf ((0:Int)≤a)<|
 Zf ((a:Int) < (Xn (Zc .plen h 0 E0 []):Int))<|
 Zf ((Zc .pnn (Zc (.pidx 7) h a E0 []) 0 E0 [])≠[])<|
 Zk (Zc (.get 1) c 0 (Zc (.padd 0) (Zc (.pidx 7) h a E0 []) 0 E0 []) []) 0 [.int .i64] fun (j:Int)=>
 Zf (Jp d (E0++[[AV.val (.int .i64 j)]]) 8)<|
 Zmx k b e (d++(E0++[[AV.val (.int .i64 j)]])) (iop .add .i64 a 1) c
 else
 Zmx k b e d (iop .add .i64 a 1) c
 else
 Zmx k b e d (iop .add .i64 a 1) c
 else
 Xa (d,c)):=by kernel_rfl
theorem ZuO (a:LL) (b:Int) (c:LL):g59 a b c =
 (Zmx Jl a b E0 0 c):=by kernel_rfl
noncomputable def F57:Fn:=⟨67,[6],[(13,[(0,.c (.cel)),(1,.c (.int .i64)),(8,.c (.own Xe 35)),(9,.c (.slice 1)),(10,.c (.int .i64)),(67,.sto)])],[],1,[],[],Xa 67,[42],[],Try.f57,([.c (.cel),.c (.int .i64),.c (.int .i64)]++Xg 64 .dead++[.sto]),[.c (.own Xe 35)],[(55,F55.S),(59,F59.S),(60,F60.S),(71,F71.S)]⟩
theorem ZwJ:F57.S.Ok Try.prog 57:=F57.ok Try.func57 (by kernel_rfl) ⟨Zub,⟨ZwA,⟨Zu6,⟨Zxe,trivial⟩⟩⟩⟩
noncomputable def g57 (a:LL) (b:Int) (c:Int) (d:LL):Option (LL×LL):=F57.S.g [.l a,.i b,.i c,.l d]
noncomputable def ZhK (k:Nat) (a:LL) (b:Int) (c:LL) (d:LL) (e:Int) (f:LL):Option (LL×LL):=F57.lp [2,1,12,1,2] 0 r0 k [.l a,.i b,.l c,.l d,.i e,.l f]
theorem ZlC (k:Nat) (b:LL) (g:Int) (c:LL) (d:LL) (e:Int) (h:LL):ZhK (k+1) b g c d e h =
 (if (cop .lss e (Xn d:Int)) then
 Zk d e [.int .i64] fun (f:Int)=>
 (g60 b f h).bind fun a=>
 Zf ((Zc .pnn a.1 0 E0 [])≠[])<|
 Zf ((Zc .pnn a.1 0 E0 [])≠[])<|
 Zf ((Zc (.get 1) a.2 0 (Zc (.padd 1) a.1 0 E0 []) [])≠[])<|
 Zf ((Zc .pnn a.1 0 E0 [])≠[])<|
 Zf ((Zc .pnn a.1 0 E0 [])≠[])<|
 Zk (Zc (.get 1) (Zc .set a.2 0 (Zc (.padd 1) a.1 0 E0 []) [AV.val (.int .i64 1)]) 0 (Zc (.padd 4) a.1 0 E0 []) []) 0 [.bool] fun (j:Bool)=>
 if j then
 Zk d e [.int .i64] fun (l:Int)=>
 (g71 b l (Zc .set a.2 0 (Zc (.padd 1) a.1 0 E0 []) [AV.val (.int .i64 1)])).bind fun i=>
 Zf (Jp c i.1 24)<|
 ZhK k b g (c++i.1) d (iop .add .i64 e 1) i.2
 else
 ZhK k b g c d (iop .add .i64 e 1) (Zc .set a.2 0 (Zc (.padd 1) a.1 0 E0 []) [AV.val (.int .i64 1)])
 else
 (g71 b g h).bind fun f=>
 Zf (Jp c f.1 24)<|
 Xa ((c++f.1),f.2)):=by kernel_rfl
theorem Zsu (c:LL) (b:Int) (d:Int) (e:LL):g57 c b d e =
 ((g55 c b e).bind fun a=>
 Zf ((Zc .pisr a.1 0 E0 [])≠[])<|
 if (cop .eql (Xn (Zc .pnn a.1 0 E0 []):Int) 0) then
 Xa (E0,a.2)
 else
 Zf ((Zc .pnn a.1 0 E0 [])≠[])<|
 Zf ((Zc .pnn a.1 0 E0 [])≠[])<|
 Zf ((Zc (.get 1) a.2 0 (Zc (.padd 4) a.1 0 E0 []) [])≠[])<|
 Zf ((Zc .pnn a.1 0 E0 [])≠[])<|
 Zf ((Zc .pnn a.1 0 E0 [])≠[])<|
 Zf ((Zc (.get 1) (Zc .set a.2 0 (Zc (.padd 4) a.1 0 E0 []) [AV.val (.bool Xb)]) 0 (Zc (.padd 3) a.1 0 E0 []) [])≠[])<|
 Zf ((Zc .pnn a.1 0 E0 [])≠[])<|
 Zf ((Zc .pnn a.1 0 E0 [])≠[])<|
 Zf ((Zc (.get 1) (Zc .set (Zc .set a.2 0 (Zc (.padd 4) a.1 0 E0 []) [AV.val (.bool Xb)]) 0 (Zc (.padd 3) a.1 0 E0 []) [AV.slice Xe 1 E0]) 0 (Zc (.padd 6) a.1 0 E0 []) [])≠[])<|
 Zf ((Zc .pnn a.1 0 E0 [])≠[])<|
 Zf ((Zc .pnn a.1 0 E0 [])≠[])<|
 Zf ((Zc (.get 1) (Zc .set (Zc .set (Zc .set a.2 0 (Zc (.padd 4) a.1 0 E0 []) [AV.val (.bool Xb)]) 0 (Zc (.padd 3) a.1 0 E0 []) [AV.slice Xe 1 E0]) 0 (Zc (.padd 6) a.1 0 E0 []) [AV.val (.bool Xe)]) 0 (Zc (.padd 5) a.1 0 E0 []) [])≠[])<|
 if (cop .eql b 1) then
 Xa (E0,(Zc .set (Zc .set (Zc .set (Zc .set a.2 0 (Zc (.padd 4) a.1 0 E0 []) [AV.val (.bool Xb)]) 0 (Zc (.padd 3) a.1 0 E0 []) [AV.slice Xe 1 E0]) 0 (Zc (.padd 6) a.1 0 E0 []) [AV.val (.bool Xe)]) 0 (Zc (.padd 5) a.1 0 E0 []) [AV.val (.int .i64 d)]))
 else
 (g59 c b (Zc .set (Zc .set (Zc .set (Zc .set a.2 0 (Zc (.padd 4) a.1 0 E0 []) [AV.val (.bool Xb)]) 0 (Zc (.padd 3) a.1 0 E0 []) [AV.slice Xe 1 E0]) 0 (Zc (.padd 6) a.1 0 E0 []) [AV.val (.bool Xe)]) 0 (Zc (.padd 5) a.1 0 E0 []) [AV.val (.int .i64 d)])).bind fun f=>
 ZhK Jl c b E0 f.1 0 f.2):=by kernel_rfl
noncomputable def F37:Fn:=⟨24,[6,7],[],[],1,[],[],Xa 24,[42],[],Try.f37,([.c (.cel),.c (.int .i64),.c (.int .i64)]++Xg 21 .dead++[.sto]),[.c (.own Xe 35),.c (.int .i64)],[(55,F55.S),(57,F57.S)]⟩
theorem Zxk:F37.S.Ok Try.prog 37:=F37.ok Try.func37 (by kernel_rfl) ⟨Zub,⟨ZwJ,trivial⟩⟩
noncomputable def g37 (a:LL) (b:Int) (c:Int) (d:LL):Option (LL×Int×LL):=F37.S.g [.l a,.i b,.i c,.l d]
theorem Zvy (c:LL) (d:Int) (b:Int) (e:LL):g37 c d b e =
 ((g55 c d e).bind fun a=>
 Zf ((Zc .pisr a.1 0 E0 [])≠[])<|
 if (cop .eql (Xn (Zc .pnn a.1 0 E0 []):Int) 0) then
 Xa (E0,17,a.2)
 else
 if (cop .lss b 0) then
 Xa (E0,1,a.2)
 else
 if (cop .gtr b 255) then
 Xa (E0,1,a.2)
 else
 (g57 c d b a.2).bind fun f=>
 Xa (f.1,0,f.2)):=by kernel_rfl
noncomputable def F72:Fn:=⟨50,[2],[(3,[(3,.c (.own Xb 3)),(4,.c (.int .i64))]),(6,[(3,.c (.own Xb 3)),(4,.c (.int .i64)),(5,.c (.int .i64))])],[],0,[2,8],[],none,[],[],Try.f72,[.c (.slice 1)],[.c (.own Xb 3)],[]⟩
theorem Zx9:F72.S.Ok Try.prog 72:=F72.ok Try.func72 (by kernel_rfl) trivial
noncomputable def g72 (a:LL):Option (LL):=F72.S.g [.l a]
noncomputable def ZqJ (rec0:List V→Option (LL)) (k:Nat) (a:LL) (b:Int) (c:Int):Option (LL):=F72.lp [3,0] 1 (ZtK r0 0 rec0) k [.l a,.i b,.i c]
theorem Zk2 (rec0:List V→Option (LL)) (k:Nat) (b:LL) (c:Int) (a:Int):ZqJ rec0 (k+1) b c a =
 (if (cop .gtr a 0) then
 Zf ((0:Int)≤a)<|
 Zf ((a:Int) < (Xn b:Int))<|
 Zk b a [.int .i64] fun (e:Int)=>
 Zf ((0:Int)≤(iop .sub .i64 a 1))<|
 Zf (((iop .sub .i64 a 1):Int) < (Xn b:Int))<|
 Zk b (iop .sub .i64 a 1) [.int .i64] fun (f:Int)=>
 if (cop .lss e f) then
 Zf ((0:Int)≤a)<|
 Zf ((a:Int) < (Xn b:Int))<|
 Zk b a [.int .i64] fun (g:Int)=>
 Zf ((0:Int)≤(iop .sub .i64 a 1))<|
 Zf (((iop .sub .i64 a 1):Int) < (Xn b:Int))<|
 Zk b (iop .sub .i64 a 1) [.int .i64] fun (d:Int)=>
 Zf ((0:Int)≤a)<|
 Zf ((a:Int) < (Xn b:Int))<|
 Zf ((0:Int)≤a)<|
 Zf ((a:Int) < (Xn b:Int))<|
 Zf ((0:Int)≤(iop .sub .i64 a 1))<|
 Zf (((iop .sub .i64 a 1):Int) < (Xn (Jf b (Ux a) 0 [AV.val (.int .i64 d)]):Int))<|
 Zf ((0:Int)≤(iop .sub .i64 a 1))<|
 Zf (((iop .sub .i64 a 1):Int) < (Xn (Jf b (Ux a) 0 [AV.val (.int .i64 d)]):Int))<|
 ZqJ rec0 k (Jf (Jf b (Ux a) 0 [AV.val (.int .i64 d)]) (Ux (iop .sub .i64 a 1)) 0 [AV.val (.int .i64 g)]) c (iop .sub .i64 a 1)
 else
 rec0 [.l b,.i (iop .add .i64 c 1)]
 else
 rec0 [.l b,.i (iop .add .i64 c 1)]):=by kernel_rfl
noncomputable def ZsP (k:Nat) (a:LL) (b:Int):Option (LL):=F72.lp [2] 0 r0 k [.l a,.i b]
theorem ZfU (k:Nat) (a:LL) (b:Int):ZsP (k+1) a b =
 (if (cop .lss b (Xn a:Int)) then
 ZqJ (F72.lp [2] 0 r0 k) Jl a b b
 else
 Xa (a)):=by kernel_rfl
theorem ZvZ (a:LL):g72 a =
 (Zf (Jp E0 a 8)<|
 ZsP Jl a 1):=by kernel_rfl
abbrev R58:=List V→Option (ShsT (ZcJ [.c (.own Xb 3)] ([.c (.cel),.c (.int .i64)]++Xg 36 .dead++[.sto])))
noncomputable def F58 (h:R58):Fn:=⟨38,[4],[(6,[(0,.c (.cel)),(5,.c (.own Xe 3)),(6,.c (.slice 1)),(7,.c (.int .i64)),(38,.sto)])],[],1,[],[],Xa 38,[42],[],Try.f58,([.c (.cel),.c (.int .i64)]++Xg 36 .dead++[.sto]),[.c (.own Xb 3)],[(58,⟨([.c (.cel),.c (.int .i64)]++Xg 36 .dead++[.sto]),[.c (.own Xb 3)],h⟩),(60,F60.S),(59,F59.S),(72,F72.S)]⟩
noncomputable def G58:Nat→R58
 | 0 => fun _ => none
 | k + 1 => (F58 (G58 k)).S.g
theorem ZwS (h:R58) (hh:(Fun.mk ([.c (.cel),.c (.int .i64)]++Xg 36 .dead++[.sto]) [.c (.own Xb 3)] (h)).Ok Try.prog 58):(F58 h).S.Ok Try.prog 58:=(F58 h).ok Try.func58 (by kernel_rfl) ⟨hh,⟨Zu6,⟨ZwA,⟨Zx9,trivial⟩⟩⟩⟩
theorem ZwN (k:Nat):(F58 (G58 k)).S=(Fun.mk ([.c (.cel),.c (.int .i64)]++Xg 36 .dead++[.sto]) [.c (.own Xb 3)] (G58 (k+1))):=by kernel_rfl
theorem ZwP (k:Nat):(Fun.mk ([.c (.cel),.c (.int .i64)]++Xg 36 .dead++[.sto]) [.c (.own Xb 3)] (G58 k)).Ok Try.prog 58:=by
 induction k with
 | zero => exact ZrM
 | succ k ih => exact Eq.mp (congrArg (fun S => Fun.Ok Try.prog 58 S) (ZwN k)) (ZwS (G58 k) ih)
noncomputable def F58.S:Fun:=⟨([.c (.cel),.c (.int .i64)]++Xg 36 .dead++[.sto]),[.c (.own Xb 3)],G58 128⟩
theorem Zxg:F58.S.Ok Try.prog 58:=ZwP 128
noncomputable def g58 (h:R58) (a:LL) (b:Int) (c:LL):Option (LL×LL):=h [.l a,.i b,.l c]
noncomputable def ZqX (h:R58) (k:Nat) (a:LL) (b:LL) (c:LL) (d:Int) (e:LL):Option (LL×LL):=(F58 h).lp [2,1,2] 0 r0 k [.l a,.l b,.l c,.i d,.l e]
theorem Zlr (h:R58) (k:Nat) (e:LL) (a:LL) (b:LL) (c:Int) (f:LL):ZqX h (k+1) e a b c f =
 (if (cop .lss c (Xn b:Int)) then
 Zk b c [.int .i64] fun (d:Int)=>
 Zf (Jp a (E0++[[AV.val (.int .i64 d)]]) 8)<|
 Zk b c [.int .i64] fun (i:Int)=>
 (g58 h e i f).bind fun g=>
 Zf (Jp (a++(E0++[[AV.val (.int .i64 d)]])) g.1 8)<|
 ZqX h k e ((a++(E0++[[AV.val (.int .i64 d)]]))++g.1) b (iop .add .i64 c 1) g.2
 else
 (g72 a).bind fun d=>
 Xa (d,f)):=by kernel_rfl
theorem ZvR (h:R58) (a:LL) (c:Int) (d:LL):g58 (F58 h).S.g a c d =
 ((g60 a c d).bind fun b=>
 Zf ((Zc .pisr b.1 0 E0 [])≠[])<|
 if (cop .eql (Xn (Zc .pnn b.1 0 E0 []):Int) 0) then
 Xa (E0,b.2)
 else
 (g59 a c b.2).bind fun e=>
 ZqX h Jl a E0 e.1 0 e.2):=by kernel_rfl
noncomputable def F39:Fn:=⟨67,[6,7],[(6,[(0,.c (.cel)),(2,.c (.int .i64)),(8,.c (.bool)),(9,.c (.own Xb 3)),(10,.c (.int .i64)),(67,.sto)]),(14,[(0,.c (.cel)),(9,.c (.own Xb 3)),(11,.c (.own Xe 35)),(12,.c (.int .i64)),(67,.sto)])],[],1,[],[],Xa 67,[42],[],Try.f39,([.c (.cel),.c (.int .i64),.c (.int .i64)]++Xg 64 .dead++[.sto]),[.c (.own Xe 35),.c (.int .i64)],[(55,F55.S),(58,F58.S),(57,F57.S)]⟩
theorem ZxE:F39.S.Ok Try.prog 39:=F39.ok Try.func39 (by kernel_rfl) ⟨Zub,⟨Zxg,⟨ZwJ,trivial⟩⟩⟩
noncomputable def g39 (a:LL) (b:Int) (c:Int) (d:LL):Option (LL×Int×LL):=F39.S.g [.l a,.i b,.i c,.l d]
noncomputable def Zqo (k:Nat) (a:LL) (b:LL) (c:LL) (d:Int) (e:LL):Option (LL×Int×LL):=F39.lp [2,1,2,1,2,1,1,3] 0 r0 k [.l a,.l b,.l c,.i d,.l e]
theorem ZkL (k:Nat) (d:LL) (b:LL) (c:LL) (a:Int) (e:LL):Zqo (k+1) d b c a e =
 (if (cop .lss a (Xn b:Int)) then
 Zf ((0:Int)≤a)<|
 Zf ((a:Int) < (Xn b:Int))<|
 Zk b a [.int .i64] fun (g:Int)=>
 (g57 d g (-1) e).bind fun f=>
 Zf (Jp c f.1 24)<|
 Zqo k d b (c++f.1) (iop .add .i64 a 1) f.2
 else
 Xa (c,0,e)):=by kernel_rfl
noncomputable def Zmw (k:Nat) (a:LL) (c:Int) (d:Bool) (e:LL) (f:Int) (g:LL):Option (LL×Int×LL):=F39.lp [2,1,2,1,2] 0 r0 k [.l a,.i c,.b d,.l e,.i f,.l g]
theorem ZkZ (k:Nat) (b:LL) (c:Int) (g:Bool) (d:LL) (a:Int) (e:LL):Zmw (k+1) b c g d a e =
 (if (cop .lss a (Xn d:Int)) then
 if g then
 Zmw k b c Xb d (iop .add .i64 a 1) e
 else
 Zf ((0:Int)≤a)<|
 Zf ((a:Int) < (Xn d:Int))<|
 Zk d a [.int .i64] fun (f:Int)=>
 Zmw k b c (cop .eql f c) d (iop .add .i64 a 1) e
 else
 if (!g) then
 Xa (E0,8,e)
 else
 (g58 (G58 128) b c e).bind fun f=>
 (g57 b c (-1) f.2).bind fun h=>
 Zqo Jl b f.1 h.1 0 h.2):=by kernel_rfl
theorem Zuq (a:LL) (b:Int) (c:Int) (f:LL):g39 a b c f =
 ((g55 a b f).bind fun d=>
 Zf ((Zc .pisr d.1 0 E0 [])≠[])<|
 if (cop .eql (Xn (Zc .pnn d.1 0 E0 []):Int) 0) then
 Xa (E0,17,d.2)
 else
 (g55 a c d.2).bind fun e=>
 Zf ((Zc .pisr e.1 0 E0 [])≠[])<|
 if (cop .eql (Xn (Zc .pnn e.1 0 E0 []):Int) 0) then
 Xa (E0,17,e.2)
 else
 (g58 (G58 128) a b e.2).bind fun g=>
 Zmw Jl a c (cop .eql b c) g.1 0 g.2):=by kernel_rfl
noncomputable def F40:Fn:=⟨69,[4,5,6],[(10,[(0,.c (.cel)),(1,.c (.int .i64)),(4,.box [.int .i64,.int .i64,.int .i64]),(7,.c (.cel)),(8,.c (.slice 1)),(9,.c (.int .i64)),(69,.sto)])],[],1,[],[],Xa 69,[42],[],Try.f40,([.c (.cel),.c (.int .i64)]++Xg 67 .dead++[.sto]),[.agg [.int .i64,.int .i64,.int .i64],.c (.bool),.c (.int .i64)],[(55,F55.S),(59,F59.S),(60,F60.S),(61,F61.S)]⟩
theorem Zxr:F40.S.Ok Try.prog 40:=F40.ok Try.func40 (by kernel_rfl) ⟨Zub,⟨ZwA,⟨Zu6,⟨Zxa,trivial⟩⟩⟩⟩
noncomputable def g40 (a:LL) (b:Int) (c:LL):Option (Int×Int×Int×Bool×Int×LL):=F40.S.g [.l a,.i b,.l c]
noncomputable def Zrt (k:Nat) (a:LL) (b:Int) (c:Int) (d:Int) (e:Int) (f:LL) (g:LL) (h:Int) (j:LL):Option (Int×Int×Int×Bool×Int×LL):=F40.lp [2,1,3,1,0,1,0] 0 r0 k [.l a,.i b,.i c,.i d,.i e,.l f,.l g,.i h,.l j]
theorem Zk6 (k:Nat) (c:LL) (g:Int) (h:Int) (i:Int) (j:Int) (b:LL) (d:LL) (e:Int) (f:LL):Zrt (k+1) c g h i j b d e f =
 (if (cop .lss e (Xn d:Int)) then
 Zk d e [.int .i64] fun (l:Int)=>
 (g60 c l f).bind fun a=>
 Zf ((Zc .pnn a.1 0 E0 [])≠[])<|
 Zf ((Zc .pnn a.1 0 E0 [])≠[])<|
 Zk (Zc (.get 1) a.2 0 (Zc (.padd 4) a.1 0 E0 []) []) 0 [.bool] fun (m:Bool)=>
 if m then
 Zf ((Zc .pnn a.1 0 E0 [])≠[])<|
 Zf ((Zc .pnn a.1 0 E0 [])≠[])<|
 Zk (Zc (.get 1) a.2 0 (Zc (.padd 0) a.1 0 E0 []) []) 0 [.int .i64] fun (n:Int)=>
 Zf ((Zc .pnn a.1 0 E0 [])≠[])<|
 Zf ((Zc .pnn a.1 0 E0 [])≠[])<|
 Zk (Zc (.get 1) a.2 0 (Zc (.padd 5) a.1 0 E0 []) []) 0 [.int .i64] fun (o:Int)=>
 Zf ((Zc .pnn a.1 0 E0 [])≠[])<|
 Zf ((Zc .pnn a.1 0 E0 [])≠[])<|
 Zk (Zc (.get 1) a.2 0 (Zc (.padd 0) a.1 0 E0 []) []) 0 [.int .i64] fun (p:Int)=>
 (g61 c p a.2).bind fun q=>
 Xa (g,n,o,Xb,0,q)
 else
 Zrt k c g h i j b d (iop .add .i64 e 1) a.2
 else
 Zf ((Zc .pnn b 0 E0 [])≠[])<|
 Zf ((Zc .pnn b 0 E0 [])≠[])<|
 Zf ((Zc (.get 1) f 0 (Zc (.padd 6) b 0 E0 []) [])≠[])<|
 Xa (0,0,0,Xe,0,(Zc .set f 0 (Zc (.padd 6) b 0 E0 []) [AV.val (.bool Xb)]))):=by kernel_rfl
theorem ZuP (b:LL) (c:Int) (e:LL):g40 b c e =
 ((g55 b c e).bind fun a=>
 Zf ((Zc .pisr a.1 0 E0 [])≠[])<|
 if (cop .eql (Xn (Zc .pnn a.1 0 E0 []):Int) 0) then
 Xa (0,0,0,Xe,17,a.2)
 else
 Zf ((Zc .pnn a.1 0 E0 [])≠[])<|
 Zf ((Zc .pnn a.1 0 E0 [])≠[])<|
 Zk (Zc (.get 1) a.2 0 (Zc (.padd 6) a.1 0 E0 []) []) 0 [.bool] fun (f:Bool)=>
 if f then
 Xa (0,0,0,Xe,4,a.2)
 else
 (g59 b c a.2).bind fun d=>
 if (cop .eql (Xn d.1:Int) 0) then
 Xa (0,0,0,Xe,2,d.2)
 else
 Zrt Jl b c 0 0 0 a.1 d.1 0 d.2):=by kernel_rfl
end Go.Proofs.Ytpjnmgjphfnmmaa
