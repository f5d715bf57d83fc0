import Derived.Test.YtpjnmgjphfnmmaaFWf
open Bool renaming false→Xe
open List renaming length→Xn
set_option linter.unusedVariables false
set_option linter.unusedSimpArgs false
set_option linter.defProp false
namespace Go.Proofs.Ytpjnmgjphfnmmaa
open Go Go.AM
set_option maxRecDepth 100000
noncomputable def F41:Fn:=⟨95,[4,5],[(5,[(0,.c (.cel)),(1,.c (.int .i64)),(6,.c (.own true 3)),(7,.c (.int .i64)),(95,.sto)]),(10,[(0,.c (.cel)),(1,.c (.int .i64)),(6,.c (.own true 3)),(7,.c (.int .i64)),(8,.c (.cel)),(9,.c (.own Xe 3)),(10,.c (.int .i64)),(95,.sto)]),(19,[(0,.c (.cel)),(6,.c (.own true 3)),(11,.c (.own Xe 35)),(12,.c (.int .i64)),(95,.sto)])],[],1,[],[],some 95,[42],[],Try.f41,([.c (.cel),.c (.int .i64)]++List.replicate 93 .dead++[.sto]),[.c (.own Xe 35),.c (.int .i64)],[(54,F54.S),(57,F57.S)]⟩
theorem Zxy:F41.S.Ok Try.prog 41:=F41.ok Try.func41 (by kernel_rfl) ⟨Zv9,⟨ZwJ,trivial⟩⟩
noncomputable def g41 (a:LL) (b:Int) (c:LL):Option (LL×Int×LL):=F41.S.g [.l a,.i b,.l c]
noncomputable def Zno (rec0:List V→Option (LL×Int×LL)) (k:Nat) (a:LL) (b:Int) (c:LL) (d:Int) (e:LL) (f:LL) (g:Int) (h:LL):Option (LL×Int×LL):=F41.lp [0,1,6,6] 1 (ZtK r0 0 rec0) k [.l a,.i b,.l c,.i d,.l e,.l f,.i g,.l h]
theorem ZlH (rec0:List V→Option (LL×Int×LL)) (k:Nat) (f:LL) (d:Int) (e:LL) (g:Int) (a:LL) (c:LL) (h:Int) (b:LL):Zno rec0 (k+1) f d e g a c h b =
 (Zf ((Zc .pnn a 0 E0 [])≠[])<|
 Zf ((Zc .pnn a 0 E0 [])≠[])<|
 Zk (Zc (.get 1) b 0 (Zc (.padd 3) a 0 E0 []) []) 0 [.slice 1] fun (o:LL)=>
 if (cop .lss h (Xn o:Int)) then
 Zf ((Zc .pnn a 0 E0 [])≠[])<|
 Zf ((Zc .pnn a 0 E0 [])≠[])<|
 Zk (Zc (.get 1) b 0 (Zc (.padd 3) a 0 E0 []) []) 0 [.slice 1] fun (m:LL)=>
 Zk m h [.int .i64] fun (j:Int)=>
 if (cop .neq j d) then
 Zf ((Zc .pnn a 0 E0 [])≠[])<|
 Zf ((Zc .pnn a 0 E0 [])≠[])<|
 Zk (Zc (.get 1) b 0 (Zc (.padd 3) a 0 E0 []) []) 0 [.slice 1] fun (p:LL)=>
 Zk p h [.int .i64] fun (n:Int)=>
 Zf (Jp c (E0++[[AV.val (.int .i64 n)]]) 8)<|
 Zno rec0 k f d e g a (c++(E0++[[AV.val (.int .i64 n)]])) (iop .add .i64 h 1) b
 else
 Zno rec0 k f d e g a c (iop .add .i64 h 1) b
 else
 Zf ((Zc .pnn a 0 E0 [])≠[])<|
 Zf ((Zc .pnn a 0 E0 [])≠[])<|
 Zf ((Zc (.get 1) b 0 (Zc (.padd 3) a 0 E0 []) [])≠[])<|
 Zf ((Zc .pnn a 0 E0 [])≠[])<|
 Zf ((Zc .pnn a 0 E0 [])≠[])<|
 Zk (Zc (.get 1) (Zc .set b 0 (Zc (.padd 3) a 0 E0 []) [AV.slice Xe 1 c]) 0 (Zc (.padd 4) a 0 E0 []) []) 0 [.bool] fun (m:Bool)=>
 if (!m) then
 if (cop .eql (Xn c:Int) 0) then
 Zf ((Zc .pnn a 0 E0 [])≠[])<|
 Zf ((Zc .pnn a 0 E0 [])≠[])<|
 Zk (Zc (.get 1) (Zc .set b 0 (Zc (.padd 3) a 0 E0 []) [AV.slice Xe 1 c]) 0 (Zc (.padd 0) a 0 E0 []) []) 0 [.int .i64] fun (j:Int)=>
 Zf (Jp e (E0++[[AV.val (.int .i64 j)]]) 8)<|
 rec0 [.l f,.i d,.l (e++(E0++[[AV.val (.int .i64 j)]])),.i (iop .add .i64 g 1),.l (Zc .set b 0 (Zc (.padd 3) a 0 E0 []) [AV.slice Xe 1 c])]
 else
 rec0 [.l f,.i d,.l e,.i (iop .add .i64 g 1),.l (Zc .set b 0 (Zc (.padd 3) a 0 E0 []) [AV.slice Xe 1 c])]
 else
 rec0 [.l f,.i d,.l e,.i (iop .add .i64 g 1),.l (Zc .set b 0 (Zc (.padd 3) a 0 E0 []) [AV.slice Xe 1 c])]):=by kernel_rfl
noncomputable def ZoC (k:Nat) (a:LL) (b:LL) (c:LL) (d:Int) (e:LL):Option (LL×Int×LL):=F41.lp [0,1,5,1,0] 0 r0 k [.l a,.l b,.l c,.i d,.l e]
theorem ZkT (k:Nat) (d:LL) (b:LL) (c:LL) (a:Int) (e:LL):ZoC (k+1) d b c a e =
 (if (cop .lss a (Xn b:Int)) then
 Zf ((0:Int)≤a)<|
 Zf ((a:Int) < (Xn b:Int))<|
 Zk b a [.int .i64] fun (g:Int)=>
 (g57 d g (-2) e).bind fun f=>
 Zf (Jp c f.1 24)<|
 ZoC k d b (c++f.1) (iop .add .i64 a 1) f.2
 else
 some (c,0,e)):=by kernel_rfl
noncomputable def Zrd (k:Nat) (a:LL) (b:Int) (c:LL) (d:Int) (e:LL):Option (LL×Int×LL):=F41.lp [0,1,0] 0 r0 k [.l a,.i b,.l c,.i d,.l e]
theorem Zlg (k:Nat) (a:LL) (e:Int) (d:LL) (b:Int) (c:LL):Zrd (k+1) a e d b c =
 (Zf ((Zc .pnn a 0 E0 [])≠[])<|
 Zf ((Zc .pnn a 0 E0 [])≠[])<|
 Zk (Zc (.get 1) c 0 (Zc (.padd 0) a 0 E0 []) []) 0 [.cel] fun (f:LL)=>
 Zf ((Zc .pisl f 0 E0 [])≠[])<|
 if (cop .lss b (Xn (Zc .plen f 0 E0 []):Int)) then
 Zf ((Zc .pnn a 0 E0 [])≠[])<|
 Zf ((Zc .pnn a 0 E0 [])≠[])<|
 Zk (Zc (.get 1) c 0 (Zc (.padd 0) a 0 E0 []) []) 0 [.cel] fun (g:LL)=>
 Zf ((0:Int)≤b)<|
 Zf ((b:Int) < (Xn (Zc .plen g 0 E0 []):Int))<|
 Zno (F41.lp [0,1,0] 0 r0 k) Jl a e d b (Zc (.pidx 7) g b E0 []) E0 0 c
 else
 ZoC Jl a d E0 0 c):=by kernel_rfl
theorem Zum (c:LL) (a:Int) (b:LL):g41 c a b =
 ((g54 a).bind fun d=>
 if (!d) then
 some (E0,1,b)
 else
 Zrd Jl c a E0 0 b):=by kernel_rfl
end Go.Proofs.Ytpjnmgjphfnmmaa
