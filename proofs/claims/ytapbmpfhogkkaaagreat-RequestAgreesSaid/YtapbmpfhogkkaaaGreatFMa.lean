/- Functions of the program, as what they compute. -/
import Derived.Test.YtapbmpfhogkkaaaGreatM5
namespace Go.Proofs.YtapbmpfhogkkaaaGreat
open Go Go.AM
set_option linter.unusedVariables false
set_option maxRecDepth 100000
noncomputable def F34:Fn:=⟨8,[2],[],[],0,[],[],Tryz.f34,[.agg [.int .i64,.int .i64,.bool]],[.agg [.int .i64,.int .i64]],[]⟩
theorem Zp1:F34.S.Ok Tryz.prog 34:=F34.ok Tryz.func34 (by kernel_rfl) trivial
noncomputable def g34 (a c:Int) (d:Bool):Option (Int×Int):=F34.S.g [.i a,.i c,.b d]
theorem ZmV (a b:Int) (c:Bool):g34 a b c =
 (some (a,b)):=by kernel_rfl
noncomputable def F33:Fn:=⟨38,[2],[],[],0,[],[],Tryz.f33,[.agg [.int .i64,.int .i64]],[.c (.bool)],[]⟩
theorem Zl9:F33.S.Ok Tryz.prog 33:=F33.ok Tryz.func33 (by kernel_rfl) trivial
noncomputable def g33 (a b:Int):Option (Bool):=F33.S.g [.i a,.i b]
theorem ZmG (b a:Int):g33 b a =
 (if (cop .lss a 6) then
 some (false)
 else
 if (cop .gtr a 40) then
 some (false)
 else
 if (cop .lss b 0) then
 some (false)
 else
 if (cop .geq b 1099511627776) then
 some (false)
 else
 Zi ((0:Int)≤(IntKind.wrap .u64 a))<|
 Zi (((iop .shl .i64 1 (IntKind.wrap .u64 a)):Int)≠0)<|
 if (cop .eql (iop .rem .i64 b (iop .shl .i64 1 (IntKind.wrap .u64 a))) 0) then
 some ((cop .leq (iop .add .i64 b (iop .shl .i64 1 (IntKind.wrap .u64 a))) 1099511627776))
 else
 some (false)):=by kernel_rfl
noncomputable def F62:Fn:=⟨13,[2],[],[],0,[],[],Tryz.f62,[.agg [.int .i64,.int .i64]],[.c (.int .i64)],[(33,F33.S)]⟩
theorem ZpE:F62.S.Ok Tryz.prog 62:=F62.ok Tryz.func62 (by kernel_rfl) ⟨Zl9,trivial⟩
noncomputable def g62 (a b:Int):Option (Int):=F62.S.g [.i a,.i b]
theorem ZmY (b a:Int):g62 b a =
 ((g33 b a).bind fun c=>
 if (!c) then
 some (0)
 else
 Zi ((0:Int)≤(IntKind.wrap .u64 a))<|
 some ((iop .add .i64 b (iop .shl .i64 1 (IntKind.wrap .u64 a))))):=by kernel_rfl
noncomputable def F63:Fn:=⟨25,[4],[],[],0,[],[],Tryz.f63,[.agg [.int .i64,.int .i64],.agg [.int .i64,.int .i64]],[.c (.bool)],[(33,F33.S),(62,F62.S)]⟩
theorem Zp3:F63.S.Ok Tryz.prog 63:=F63.ok Tryz.func63 (by kernel_rfl) ⟨Zl9,⟨ZpE,trivial⟩⟩
noncomputable def g63 (a b c d:Int):Option (Bool):=F63.S.g [.i a,.i b,.i c,.i d]
theorem ZmH (a c b d:Int):g63 a c b d =
 ((g33 a c).bind fun e=>
 if e then
 (g33 b d).bind fun f=>
 if f then
 if (cop .leq a b) then
 (g62 b d).bind fun g=>
 (g62 a c).bind fun h=>
 some ((cop .leq g h))
 else
 some (false)
 else
 some (false)
 else
 some (false)):=by kernel_rfl
noncomputable def F37:Fn:=⟨20,[4],[(2,[(0,.c (.slice 3)),(3,.box [.int .i64,.int .i64]),(5,.c (.int .i64))])],[],0,[],[],Tryz.f37,[.c (.slice 3),.agg [.int .i64,.int .i64]],[.c (.int .i64)],[(34,F34.S),(63,F63.S)]⟩
theorem ZqS:F37.S.Ok Tryz.prog 37:=F37.ok Tryz.func37 (by kernel_rfl) ⟨Zp1,⟨Zp3,trivial⟩⟩
noncomputable def g37 (a:LL) (b c:Int):Option (Int):=F37.S.g [.l a,.i b,.i c]
noncomputable def ZgL (k:Nat) (a:LL) (b c d:Int):Option (Int):=F37.lp [0] 0 r0 k [.l a,.i b,.i c,.i d]
theorem Ze0 (k:Nat) (b:LL) (c d a:Int):ZgL (k+1) b c d a =
 (if (cop .lss a (List.length b:Int)) then
 Zj b a [.int .i64,.int .i64,.bool] fun (e:Int×Int×Bool)=>
 (g34 e.1 e.2.1 e.2.2).bind fun f=>
 (g63 f.1 f.2 c d).bind fun g=>
 if g then
 some (a)
 else
 ZgL k b c d (iop .add .i64 a 1)
 else
 some ((-1))):=by kernel_rfl
theorem Zom (a:LL) (b c:Int):g37 a b c =
 (ZgL ZZ a b c 0):=by kernel_rfl
noncomputable def Znf:Fn:=⟨18,[4],[(2,[(0,.c (.slice 1)),(1,.c (.int .i64)),(5,.c (.int .i64))])],[],0,[],[],Tryz.f100,[.c (.slice 1),.c (.int .i64)],[.c (.bool)],[]⟩
theorem Zpi:Znf.S.Ok Tryz.prog 100:=Znf.ok Tryz.func100 (by kernel_rfl) trivial
noncomputable def ZoZ (a:LL) (b:Int):Option (Bool):=Znf.S.g [.l a,.i b]
noncomputable def Za5 (k:Nat) (a:LL) (b c:Int):Option (Bool):=Znf.lp [0] 0 r0 k [.l a,.i b,.i c]
theorem Zc4 (k:Nat) (a:LL) (c b:Int):Za5 (k+1) a c b =
 (if (cop .lss b (List.length a:Int)) then
 Zj a b [.int .i64] fun (d:Int)=>
 if (cop .eql d c) then
 some (true)
 else
 Za5 k a c (iop .add .i64 b 1)
 else
 some (false)):=by kernel_rfl
theorem Zlm (a:LL) (b:Int):ZoZ a b =
 (Za5 ZZ a b 0):=by kernel_rfl
noncomputable def F65:Fn:=⟨8,[2],[],[],0,[],[],Tryz.f65,[.agg hs14],[.agg [.int .i64,.int .i64]],[]⟩
theorem Zp2:F65.S.Ok Tryz.prog 65:=F65.ok Tryz.func65 (by kernel_rfl) trivial
noncomputable def g65 (a c d e f h:Int) (j:Bool):Option (Int×Int):=F65.S.g [.i a,.i c,.i d,.i e,.i f,.i h,.b j]
theorem ZmX (c a b d e f:Int) (g:Bool):g65 c a b d e f g =
 (some (a,b)):=by kernel_rfl
end Go.Proofs.YtapbmpfhogkkaaaGreat
