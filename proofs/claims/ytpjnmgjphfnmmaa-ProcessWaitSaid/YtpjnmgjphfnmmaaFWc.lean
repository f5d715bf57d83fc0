import Derived.Test.YtpjnmgjphfnmmaaFWb
open Option renaming some→Xa
open Bool renaming false→Xc
open List renaming replicate→Xm,length→XT
set_option linter.unusedVariables false
set_option linter.unusedSimpArgs false
set_option linter.defProp false
namespace Go.Proofs.Ytpjnmgjphfnmmaa
open Go Go.AM
set_option maxRecDepth 100000
noncomputable def F52:Fn:=⟨45,[6],[],[],1,[],[],Xa 45,[22],[],Try.f52,([.c (.cel),.c (.int .i64),.c (.cel)]++Xm 42 .dead++[.sto]),[.c (.own Xc 35)],[]⟩
theorem Zup:F52.S.Ok Try.prog 52:=F52.ok Try.func52 (by kernel_rfl) trivial
noncomputable def g52 (a:LL) (b:Int) (c:LL) (d:LL):Option (LL×LL):=F52.S.g [.l a,.i b,.l c,.l d]
theorem Zsm (e:LL) (b:Int) (d:LL) (a:LL):g52 e b d a =
 (ZW ((Zf .pnn e 0 E0 [])≠[])<|
 ZW ((Zf .pnn e 0 E0 [])≠[])<|
 Jn (Zf (.get 1) a 0 (Zf (.padd 0) e 0 E0 []) []) 0 [.cel] fun (c:LL)=>
 ZW ((Zf .mchk a 0 c [])≠[])<|
 ZW ((Zf .pisr (Zf .mget a b c []) 0 E0 [])≠[])<|
 if (cop .eql (XT (Zf .pnn (Zf .mget a b c []) 0 E0 []):Int) 0) then
 Xa (E0,a)
 else
 ZW ((Zf .pnn (Zf .mget a b c []) 0 E0 [])≠[])<|
 ZW ((Zf .pnn (Zf .mget a b c []) 0 E0 [])≠[])<|
 Jn (Zf (.get 1) a 0 (Zf (.padd 6) (Zf .mget a b c []) 0 E0 []) []) 0 [.bool] fun (h:Bool)=>
 if (!h) then
 Xa (E0,a)
 else
 ZW ((Zf .pnn (Zf .mget a b c []) 0 E0 [])≠[])<|
 ZW ((Zf .pnn (Zf .mget a b c []) 0 E0 [])≠[])<|
 ZW ((Zf (.get 1) a 0 (Zf (.padd 6) (Zf .mget a b c []) 0 E0 []) [])≠[])<|
 ZW ((Zf .pnn e 0 E0 [])≠[])<|
 ZW ((Zf .pnn e 0 E0 [])≠[])<|
 Jn (Zf (.get 1) (Zf .set a 0 (Zf (.padd 6) (Zf .mget a b c []) 0 E0 []) [AV.val (.bool Xc)]) 0 (Zf (.padd 0) e 0 E0 []) []) 0 [.cel] fun (f:LL)=>
 ZW ((Zf .pnn d 0 E0 [])≠[])<|
 ZW ((Zf .pnn d 0 E0 [])≠[])<|
 Jn (Zf (.get 1) (Zf .set a 0 (Zf (.padd 6) (Zf .mget a b c []) 0 E0 []) [AV.val (.bool Xc)]) 0 (Zf (.padd 0) d 0 E0 []) []) 0 [.int .i64] fun (g:Int)=>
 ZW ((Zf .mchk (Zf .set a 0 (Zf (.padd 6) (Zf .mget a b c []) 0 E0 []) [AV.val (.bool Xc)]) 0 f [])≠[])<|
 ZW ((Zf .pnn d 0 E0 [])≠[])<|
 ZW ((Zf .pnn d 0 E0 [])≠[])<|
 Jn (Zf (.get 1) (Zf .mdel (Zf .set a 0 (Zf (.padd 6) (Zf .mget a b c []) 0 E0 []) [AV.val (.bool Xc)]) g f []) 0 (Zf (.padd 0) d 0 E0 []) []) 0 [.int .i64] fun (i:Int)=>
 ZW ((Zf .pnn d 0 E0 [])≠[])<|
 ZW ((Zf .pnn d 0 E0 [])≠[])<|
 Jn (Zf (.get 1) (Zf .mdel (Zf .set a 0 (Zf (.padd 6) (Zf .mget a b c []) 0 E0 []) [AV.val (.bool Xc)]) g f []) 0 (Zf (.padd 5) d 0 E0 []) []) 0 [.int .i64] fun (j:Int)=>
 Xa ((E0++[[AV.val (.int .i64 b),AV.val (.int .i64 i),AV.val (.int .i64 j)]]),(Zf .mdel (Zf .set a 0 (Zf (.padd 6) (Zf .mget a b c []) 0 E0 []) [AV.val (.bool Xc)]) g f []))):=by kernel_rfl
noncomputable def F30:Fn:=⟨73,[6],[(6,[(0,.c (.cel)),(1,.c (.cel)),(7,.c (.own Xc 35)),(30,.c (.slice 1)),(31,.c (.int .i64)),(32,.c (.int .i64)),(73,.sto)])],[],1,[],[],Xa 73,[22],[],Try.f30,([.c (.cel),.c (.cel),.c (.int .i64)]++Xm 70 .dead++[.sto]),[.c (.own Xc 35)],[(29,F29.S),(52,F52.S)]⟩
theorem Zun:F30.S.Ok Try.prog 30:=F30.ok Try.func30 (by kernel_rfl) ⟨ZtI,⟨Zup,trivial⟩⟩
noncomputable def g30 (a:LL) (b:LL) (c:Int) (d:LL):Option (LL×LL):=F30.S.g [.l a,.l b,.i c,.l d]
noncomputable def Zf4 (k:Nat) (a:LL) (b:LL) (c:LL) (d:LL) (e:Int) (f:Int) (g:LL):Option (LL×LL):=F30.lp [15,1,2] 0 r0 k [.l a,.l b,.l c,.l d,.i e,.i f,.l g]
theorem Zj1 (k:Nat) (e:LL) (d:LL) (f:LL) (h:LL) (i:Int) (g:Int) (a:LL):Zf4 (k+1) e d f h i g a =
 (if (cop .lss g i) then
 Jn h g [.int .i64] fun (c:Int)=>
 ZW ((Zf .pnn e 0 E0 [])≠[])<|
 ZW ((Zf .pnn e 0 E0 [])≠[])<|
 Jn (Zf (.get 1) a 0 (Zf (.padd 0) e 0 E0 []) []) 0 [.cel] fun (b:LL)=>
 ZW ((Zf .mchk a 0 b [])≠[])<|
 ZW ((Zf .pnn (Zf .mget a c b []) 0 E0 [])≠[])<|
 ZW ((Zf .pnn (Zf .mget a c b []) 0 E0 [])≠[])<|
 Jn (Zf (.get 1) a 0 (Zf (.padd 1) (Zf .mget a c b []) 0 E0 []) []) 0 [.int .i64] fun (l:Int)=>
 ZW ((Zf .pnn d 0 E0 [])≠[])<|
 ZW ((Zf .pnn d 0 E0 [])≠[])<|
 Jn (Zf (.get 1) a 0 (Zf (.padd 0) d 0 E0 []) []) 0 [.int .i64] fun (m:Int)=>
 if (cop .neq l m) then
 Zf4 k e d f h i (iop .add .i64 g 1) a
 else
 ZW ((Zf .pnn (Zf .mget a c b []) 0 E0 [])≠[])<|
 ZW ((Zf .pnn (Zf .mget a c b []) 0 E0 [])≠[])<|
 ZW ((Zf (.get 1) a 0 (Zf (.padd 1) (Zf .mget a c b []) 0 E0 []) [])≠[])<|
 ZW ((Zf .pnn (Zf .mget a c b []) 0 E0 [])≠[])<|
 ZW ((Zf .pnn (Zf .mget a c b []) 0 E0 [])≠[])<|
 Jn (Zf (.get 1) (Zf .set a 0 (Zf (.padd 1) (Zf .mget a c b []) 0 E0 []) [AV.val (.int .i64 1)]) 0 (Zf (.padd 4) (Zf .mget a c b []) 0 E0 []) []) 0 [.bool] fun (n:Bool)=>
 if n then
 (g52 e 1 (Zf .mget a c b []) (Zf .set a 0 (Zf (.padd 1) (Zf .mget a c b []) 0 E0 []) [AV.val (.int .i64 1)])).bind fun j=>
 ZW (Zaz f j.1 24)<|
 Zf4 k e d (f++j.1) h i (iop .add .i64 g 1) j.2
 else
 Zf4 k e d f h i (iop .add .i64 g 1) (Zf .set a 0 (Zf (.padd 1) (Zf .mget a c b []) 0 E0 []) [AV.val (.int .i64 1)])
 else
 ZW ((Zf .pnn d 0 E0 [])≠[])<|
 ZW ((Zf .pnn d 0 E0 [])≠[])<|
 Jn (Zf (.get 1) a 0 (Zf (.padd 1) d 0 E0 []) []) 0 [.int .i64] fun (c:Int)=>
 (g52 e c d a).bind fun b=>
 ZW (Zaz f b.1 24)<|
 Xa ((f++b.1),b.2)):=by kernel_rfl
theorem ZsM (d:LL) (a:LL) (c:Int) (b:LL):g30 d a c b =
 (ZW ((Zf .pnn a 0 E0 [])≠[])<|
 ZW ((Zf .pnn a 0 E0 [])≠[])<|
 ZW ((Zf (.get 1) b 0 (Zf (.padd 4) a 0 E0 []) [])≠[])<|
 ZW ((Zf .pnn a 0 E0 [])≠[])<|
 ZW ((Zf .pnn a 0 E0 [])≠[])<|
 ZW ((Zf (.get 1) (Zf .set b 0 (Zf (.padd 4) a 0 E0 []) [AV.val (.bool true)]) 0 (Zf (.padd 5) a 0 E0 []) [])≠[])<|
 ZW ((Zf .pnn a 0 E0 [])≠[])<|
 ZW ((Zf .pnn a 0 E0 [])≠[])<|
 ZW ((Zf (.get 1) (Zf .set (Zf .set b 0 (Zf (.padd 4) a 0 E0 []) [AV.val (.bool true)]) 0 (Zf (.padd 5) a 0 E0 []) [AV.val (.int .i64 c)]) 0 (Zf (.padd 3) a 0 E0 []) [])≠[])<|
 ZW ((Zf .pnn a 0 E0 [])≠[])<|
 ZW ((Zf .pnn a 0 E0 [])≠[])<|
 ZW ((Zf (.get 1) (Zf .set (Zf .set (Zf .set b 0 (Zf (.padd 4) a 0 E0 []) [AV.val (.bool true)]) 0 (Zf (.padd 5) a 0 E0 []) [AV.val (.int .i64 c)]) 0 (Zf (.padd 3) a 0 E0 []) [Zk (Zf (.pnil 1) E0 0 E0 [])]) 0 (Zf (.padd 6) a 0 E0 []) [])≠[])<|
 ZW ((Zf .pnn a 0 E0 [])≠[])<|
 ZW ((Zf .pnn a 0 E0 [])≠[])<|
 Jn (Zf (.get 1) (Zf .set (Zf .set (Zf .set (Zf .set b 0 (Zf (.padd 4) a 0 E0 []) [AV.val (.bool true)]) 0 (Zf (.padd 5) a 0 E0 []) [AV.val (.int .i64 c)]) 0 (Zf (.padd 3) a 0 E0 []) [Zk (Zf (.pnil 1) E0 0 E0 [])]) 0 (Zf (.padd 6) a 0 E0 []) [AV.val (.bool Xc)]) 0 (Zf (.padd 0) a 0 E0 []) []) 0 [.int .i64] fun (f:Int)=>
 if (cop .eql f 1) then
 Xa (E0,(Zf .set (Zf .set (Zf .set (Zf .set b 0 (Zf (.padd 4) a 0 E0 []) [AV.val (.bool true)]) 0 (Zf (.padd 5) a 0 E0 []) [AV.val (.int .i64 c)]) 0 (Zf (.padd 3) a 0 E0 []) [Zk (Zf (.pnil 1) E0 0 E0 [])]) 0 (Zf (.padd 6) a 0 E0 []) [AV.val (.bool Xc)]))
 else
 (g29 d (Zf .set (Zf .set (Zf .set (Zf .set b 0 (Zf (.padd 4) a 0 E0 []) [AV.val (.bool true)]) 0 (Zf (.padd 5) a 0 E0 []) [AV.val (.int .i64 c)]) 0 (Zf (.padd 3) a 0 E0 []) [Zk (Zf (.pnil 1) E0 0 E0 [])]) 0 (Zf (.padd 6) a 0 E0 []) [AV.val (.bool Xc)])).bind fun e=>
 Zf4 ZeD d a E0 e.1 (XT e.1:Int) 0 e.2):=by kernel_rfl
noncomputable def F13:Fn:=⟨26,[6,7],[],[],1,[],[],Xa 26,[22],[],Try.f13,([.c (.cel),.c (.int .i64),.c (.int .i64)]++Xm 23 .dead++[.sto]),[.c (.own Xc 35),.c (.int .i64)],[(27,F27.S),(30,F30.S)]⟩
theorem ZtV:F13.S.Ok Try.prog 13:=F13.ok Try.func13 (by kernel_rfl) ⟨Zty,⟨Zun,trivial⟩⟩
noncomputable def g13 (a:LL) (b:Int) (c:Int) (d:LL):Option (LL×Int×LL):=F13.S.g [.l a,.i b,.i c,.l d]
theorem ZsW (c:LL) (d:Int) (b:Int) (e:LL):g13 c d b e =
 ((g27 c d e).bind fun a=>
 ZW ((Zf .pisr a.1 0 E0 [])≠[])<|
 if (cop .eql (XT (Zf .pnn a.1 0 E0 []):Int) 0) then
 Xa (E0,17,a.2)
 else
 if (cop .lss b 0) then
 Xa (E0,1,a.2)
 else
 if (cop .gtr b 255) then
 Xa (E0,1,a.2)
 else
 (g30 c a.1 b a.2).bind fun f=>
 Xa (f.1,0,f.2)):=by kernel_rfl
end Go.Proofs.Ytpjnmgjphfnmmaa
