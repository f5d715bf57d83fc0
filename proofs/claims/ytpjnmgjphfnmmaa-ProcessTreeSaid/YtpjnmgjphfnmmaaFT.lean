import Derived.Test.YtpjnmgjphfnmmaaFWh
set_option linter.unusedVariables false
set_option linter.unusedSimpArgs false
set_option linter.defProp false
namespace Go.Proofs.Ytpjnmgjphfnmmaa
open Go Go.AM
set_option maxRecDepth 100000
noncomputable def F20:Fn:=⟨25,[4,5],[(2,[(0,.c (.slice 7)),(1,.c (.int .i64)),(4,.box [.int .i64,.int .i64,.str,.slice 1,.bool,.int .i64,.bool]),(6,.c (.int .i64))])],[],0,[],[],none,[],[],Try.f20,[.c (.slice 7),.c (.int .i64)],[.agg [.int .i64,.int .i64,.str,.slice 1,.bool,.int .i64,.bool],.c (.bool)],[]⟩
theorem Zwc:F20.S.Ok Try.prog 20:=F20.ok Try.func20 (by kernel_rfl) trivial
noncomputable def g20 (a:LL) (b:Int):Option (Int×Int×ByteArray×LL×Bool×Int×Bool×Bool):=F20.S.g [.l a,.i b]
noncomputable def ZpP (k:Nat) (a:LL) (c:Int) (d:Int) (e:Int) (f:ByteArray) (g:LL) (h:Bool) (j:Int) (m:Bool) (n:Int):Option (Int×Int×ByteArray×LL×Bool×Int×Bool×Bool):=F20.lp [0] 0 r0 k [.l a,.i c,.i d,.i e,.s f,.l g,.b h,.i j,.b m,.i n]
theorem ZkK (k:Nat) (b:LL) (d:Int) (e:Int) (f:Int) (g:ByteArray) (h:LL) (i:Bool) (j:Int) (l:Bool) (c:Int):ZpP (k+1) b d e f g h i j l c =
 (if (cop .lss c (List.length b:Int)) then
 Zk b c [.int .i64,.int .i64,.str,.slice 1,.bool,.int .i64,.bool] fun (m:Int×Int×ByteArray×LL×Bool×Int×Bool)=>
 if (cop .eql m.1 d) then
 Zk b c [.int .i64,.int .i64,.str,.slice 1,.bool,.int .i64,.bool] fun (a:Int×Int×ByteArray×LL×Bool×Int×Bool)=>
 some (a.1,a.2.1,a.2.2.1,a.2.2.2.1,a.2.2.2.2.1,a.2.2.2.2.2.1,a.2.2.2.2.2.2,true)
 else
 ZpP k b d e f g h i j l (iop .add .i64 c 1)
 else
 some (0,0,(⟨#[]⟩:ByteArray),E0,false,0,false,false)):=by kernel_rfl
theorem Ztw (a:LL) (b:Int):g20 a b =
 (ZpP Jr a b 0 0 (⟨#[]⟩:ByteArray) E0 false 0 false 0):=by kernel_rfl
end Go.Proofs.Ytpjnmgjphfnmmaa
