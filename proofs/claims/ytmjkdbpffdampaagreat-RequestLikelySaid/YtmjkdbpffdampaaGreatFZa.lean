/- Functions of the program, as what they compute. -/
import Derived.Test.YtmjkdbpffdampaaGreatM5
namespace Go.Proofs.YtmjkdbpffdampaaGreat
open Go Go.AM
set_option linter.unusedVariables false
set_option maxRecDepth 100000
noncomputable def F43:Fn:=⟨122,[6],[],[],0,[],[],Tryz.f43,[.c (.int .i64),.c (.int .i64),.agg hs5],[.c (.bool)],[]⟩
theorem Zpd:F43.S.Ok Tryz.prog 43:=F43.ok Tryz.func43 (by kernel_rfl) trivial
noncomputable def g43 (a b c d e f h j k l m n o p:Int):Option (Bool):=F43.S.g [.i a,.i b,.i c,.i d,.i e,.i f,.i h,.i j,.i k,.i l,.i m,.i n,.i o,.i p]
theorem Zmd (i b a d c h g j f k l e m n:Int):g43 i b a d c h g j f k l e m n =
 (if (cop .geq d 0) then
 if (cop .geq c 0) then
 if (cop .geq g 0) then
 if (cop .eql a 1) then
 if (!(cop .lss c b)) then
 some (true)
 else
 if (cop .lss f 6) then
 some (true)
 else
 some ((cop .gtr f 40))
 else
 if (cop .eql a 2) then
 if (!(cop .lss d b)) then
 some (true)
 else
 if (cop .lss e 1) then
 some (true)
 else
 if (cop .gtr e 8) then
 some (true)
 else
 if (cop .lss c 0) then
 some (true)
 else
 some ((cop .gtr c (iop .sub .i64 b e)))
 else
 if (cop .eql a 3) then
 if (!(cop .lss d b)) then
 some (true)
 else
 if (!(cop .lss c b)) then
 some (true)
 else
 some ((!(cop .leq g 7)))
 else
 if (cop .eql a 4) then
 if (!(cop .lss d b)) then
 some (true)
 else
 if (!(cop .lss c b)) then
 some (true)
 else
 if (!(cop .leq g 7)) then
 some (true)
 else
 if (cop .lss h 0) then
 some (true)
 else
 if (cop .geq h 32) then
 some (true)
 else
 some ((cop .eql h i))
 else
 some ((!(cop .lss d b)))
 else
 if (cop .eql a 1) then
 if (!(cop .lss c b)) then
 some (true)
 else
 if (cop .lss f 6) then
 some (true)
 else
 some ((cop .gtr f 40))
 else
 if (cop .eql a 2) then
 if (!(cop .lss d b)) then
 some (true)
 else
 if (cop .lss e 1) then
 some (true)
 else
 if (cop .gtr e 8) then
 some (true)
 else
 if (cop .lss c 0) then
 some (true)
 else
 some ((cop .gtr c (iop .sub .i64 b e)))
 else
 if (cop .eql a 3) then
 if (!(cop .lss d b)) then
 some (true)
 else
 if (!(cop .lss c b)) then
 some (true)
 else
 some (true)
 else
 if (cop .eql a 4) then
 if (!(cop .lss d b)) then
 some (true)
 else
 if (!(cop .lss c b)) then
 some (true)
 else
 some (true)
 else
 some ((!(cop .lss d b)))
 else
 if (cop .geq g 0) then
 if (cop .eql a 1) then
 some (true)
 else
 if (cop .eql a 2) then
 if (!(cop .lss d b)) then
 some (true)
 else
 if (cop .lss e 1) then
 some (true)
 else
 if (cop .gtr e 8) then
 some (true)
 else
 if (cop .lss c 0) then
 some (true)
 else
 some ((cop .gtr c (iop .sub .i64 b e)))
 else
 if (cop .eql a 3) then
 if (!(cop .lss d b)) then
 some (true)
 else
 some (true)
 else
 if (cop .eql a 4) then
 if (!(cop .lss d b)) then
 some (true)
 else
 some (true)
 else
 some ((!(cop .lss d b)))
 else
 if (cop .eql a 1) then
 some (true)
 else
 if (cop .eql a 2) then
 if (!(cop .lss d b)) then
 some (true)
 else
 if (cop .lss e 1) then
 some (true)
 else
 if (cop .gtr e 8) then
 some (true)
 else
 if (cop .lss c 0) then
 some (true)
 else
 some ((cop .gtr c (iop .sub .i64 b e)))
 else
 if (cop .eql a 3) then
 if (!(cop .lss d b)) then
 some (true)
 else
 some (true)
 else
 if (cop .eql a 4) then
 if (!(cop .lss d b)) then
 some (true)
 else
 some (true)
 else
 some ((!(cop .lss d b)))
 else
 if (cop .geq c 0) then
 if (cop .geq g 0) then
 if (cop .eql a 1) then
 if (!(cop .lss c b)) then
 some (true)
 else
 if (cop .lss f 6) then
 some (true)
 else
 some ((cop .gtr f 40))
 else
 if (cop .eql a 2) then
 some (true)
 else
 if (cop .eql a 3) then
 some (true)
 else
 if (cop .eql a 4) then
 some (true)
 else
 some (true)
 else
 if (cop .eql a 1) then
 if (!(cop .lss c b)) then
 some (true)
 else
 if (cop .lss f 6) then
 some (true)
 else
 some ((cop .gtr f 40))
 else
 if (cop .eql a 2) then
 some (true)
 else
 if (cop .eql a 3) then
 some (true)
 else
 if (cop .eql a 4) then
 some (true)
 else
 some (true)
 else
 if (cop .geq g 0) then
 if (cop .eql a 1) then
 some (true)
 else
 if (cop .eql a 2) then
 some (true)
 else
 if (cop .eql a 3) then
 some (true)
 else
 if (cop .eql a 4) then
 some (true)
 else
 some (true)
 else
 if (cop .eql a 1) then
 some (true)
 else
 if (cop .eql a 2) then
 some (true)
 else
 if (cop .eql a 3) then
 some (true)
 else
 if (cop .eql a 4) then
 some (true)
 else
 some (true)):=by kernel_rfl
noncomputable def F74:Fn:=⟨44,[4],[(2,[(0,.c (.slice 1)),(1,.c (.int .i64)),(5,.c (.int .i64))])],[],0,[],[],Tryz.f74,[.c (.slice 1),.c (.int .i64)],[.c (.slice 1)],[]⟩
theorem ZoM:F74.S.Ok Tryz.prog 74:=F74.ok Tryz.func74 (by kernel_rfl) trivial
noncomputable def g74 (a:LL) (b:Int):Option (LL):=F74.S.g [.l a,.i b]
noncomputable def Zgm (k:Nat) (a:LL) (b c:Int):Option (LL):=F74.lp [0] 0 r0 k [.l a,.i b,.i c]
theorem ZeF (k:Nat) (b:LL) (c a:Int):Zgm (k+1) b c a =
 (if (cop .lss a (List.length b:Int)) then
 Zq b a [.int .i64] fun (d:Int)=>
 if (cop .lss d c) then
 Zgm k b c (iop .add .i64 a 1)
 else
 if (cop .lss a (List.length b:Int)) then
 Zq b a [.int .i64] fun (e:Int)=>
 if (cop .eql e c) then
 some (b)
 else
 Zn ((0:Int)≤a)<|
 Zn ((a:Int)≤(List.length b:Int))<|
 Zn (Z0 E0 (List.take (Int.toNat a) b) 8)<|
 Zn (Z0 (List.take (Int.toNat a) b) (E0++[[AV.val (.int .i64 c)]]) 8)<|
 Zn ((0:Int)≤a)<|
 Zn ((a:Int)≤(List.length b:Int))<|
 Zn (Z0 ((List.take (Int.toNat a) b)++(E0++[[AV.val (.int .i64 c)]])) (List.drop (Int.toNat a) b) 8)<|
 some ((((List.take (Int.toNat a) b)++(E0++[[AV.val (.int .i64 c)]]))++(List.drop (Int.toNat a) b)))
 else
 Zn ((0:Int)≤a)<|
 Zn ((a:Int)≤(List.length b:Int))<|
 Zn (Z0 E0 (List.take (Int.toNat a) b) 8)<|
 Zn (Z0 (List.take (Int.toNat a) b) (E0++[[AV.val (.int .i64 c)]]) 8)<|
 Zn ((0:Int)≤a)<|
 Zn ((a:Int)≤(List.length b:Int))<|
 Zn (Z0 ((List.take (Int.toNat a) b)++(E0++[[AV.val (.int .i64 c)]])) (List.drop (Int.toNat a) b) 8)<|
 some ((((List.take (Int.toNat a) b)++(E0++[[AV.val (.int .i64 c)]]))++(List.drop (Int.toNat a) b)))
 else
 if (cop .lss a (List.length b:Int)) then
 Zq b a [.int .i64] fun (d:Int)=>
 if (cop .eql d c) then
 some (b)
 else
 Zn ((0:Int)≤a)<|
 Zn ((a:Int)≤(List.length b:Int))<|
 Zn (Z0 E0 (List.take (Int.toNat a) b) 8)<|
 Zn (Z0 (List.take (Int.toNat a) b) (E0++[[AV.val (.int .i64 c)]]) 8)<|
 Zn ((0:Int)≤a)<|
 Zn ((a:Int)≤(List.length b:Int))<|
 Zn (Z0 ((List.take (Int.toNat a) b)++(E0++[[AV.val (.int .i64 c)]])) (List.drop (Int.toNat a) b) 8)<|
 some ((((List.take (Int.toNat a) b)++(E0++[[AV.val (.int .i64 c)]]))++(List.drop (Int.toNat a) b)))
 else
 Zn ((0:Int)≤a)<|
 Zn ((a:Int)≤(List.length b:Int))<|
 Zn (Z0 E0 (List.take (Int.toNat a) b) 8)<|
 Zn (Z0 (List.take (Int.toNat a) b) (E0++[[AV.val (.int .i64 c)]]) 8)<|
 Zn ((0:Int)≤a)<|
 Zn ((a:Int)≤(List.length b:Int))<|
 Zn (Z0 ((List.take (Int.toNat a) b)++(E0++[[AV.val (.int .i64 c)]])) (List.drop (Int.toNat a) b) 8)<|
 some ((((List.take (Int.toNat a) b)++(E0++[[AV.val (.int .i64 c)]]))++(List.drop (Int.toNat a) b)))):=by kernel_rfl
theorem ZlY (a:LL) (b:Int):g74 a b =
 (Zgm Z2 a b 0):=by kernel_rfl
noncomputable def F44:Fn:=⟨42,[2],[(8,[(1,.box hs5),(3,.c (.slice 1)),(4,.c (.int .i64))])],[],0,[],[],Tryz.f44,[.agg hs5],[.c (.slice 1)],[(74,F74.S)]⟩
theorem ZpA:F44.S.Ok Tryz.prog 44:=F44.ok Tryz.func44 (by kernel_rfl) ⟨ZoM,trivial⟩
noncomputable def g44 (a b c d e f h j k l m n:Int):Option (LL):=F44.S.g [.i a,.i b,.i c,.i d,.i e,.i f,.i h,.i j,.i k,.i l,.i m,.i n]
noncomputable def ZiO (k:Nat) (a b c d e f g h j m n o:Int) (p:LL) (q:Int):Option (LL):=F44.lp [1,0,0] 0 r0 k [.i a,.i b,.i c,.i d,.i e,.i f,.i g,.i h,.i j,.i m,.i n,.i o,.l p,.i q]
theorem Zfh (k:Nat) (g b c h i j l m n d o p:Int) (e:LL) (a:Int):ZiO (k+1) g b c h i j l m n d o p e a =
 (if (cop .lss a d) then
 (g74 e (iop .add .i64 c a)).bind fun f=>
 ZiO k g b c h i j l m n d o p f (iop .add .i64 a 1)
 else
 (g74 e b).bind fun f=>
 some (f)):=by kernel_rfl
theorem Zmr (a b c d e f g h i j k l:Int):g44 a b c d e f g h i j k l =
 (if (cop .eql a 1) then
 some ((E0++[[AV.val (.int .i64 c)]]))
 else
 if (cop .eql a 2) then
 ZiO Z2 a b c d e f g h i j k l E0 0
 else
 if (cop .eql a 3) then
 (g74 (E0++[[AV.val (.int .i64 b)]]) c).bind fun m=>
 some (m)
 else
 some ((E0++[[AV.val (.int .i64 b)]]))):=by kernel_rfl
noncomputable def F45:Fn:=⟨12,[2],[],[],0,[],[],Tryz.f45,[.agg hs3],[.c (.bool)],[]⟩
theorem Zpr:F45.S.Ok Tryz.prog 45:=F45.ok Tryz.func45 (by kernel_rfl) trivial
noncomputable def g45 (a c d:Int) (e:LL) (f h j k m n:Int) (o:Bool) (p q r s:Int):Option (Bool):=F45.S.g [.i a,.i c,.i d,.l e,.i f,.i h,.i j,.i k,.i m,.i n,.b o,.i p,.i q,.i r,.i s]
theorem Zlx (e f g:Int) (h:LL) (i j k l m n:Int) (o:Bool) (a b c d:Int):g45 e f g h i j k l m n o a b c d =
 (if (cop .neq a 0) then
 some (true)
 else
 some ((!((cop .eql b 0)&&((cop .eql c 0)&&((cop .eql d 0)&&true)))))):=by kernel_rfl
noncomputable def F46:Fn:=⟨38,[2],[],[],0,[],[],Tryz.f46,[.agg [.int .i64,.int .i64]],[.c (.bool)],[]⟩
theorem ZlN:F46.S.Ok Tryz.prog 46:=F46.ok Tryz.func46 (by kernel_rfl) trivial
noncomputable def g46 (a b:Int):Option (Bool):=F46.S.g [.i a,.i b]
theorem Zmi (b a:Int):g46 b a =
 (if (cop .lss a 6) then
 some (false)
 else
 if (cop .gtr a 40) then
 some (false)
 else
 if (cop .lss b 0) then
 some (false)
 else
 if (cop .geq b 1099511627776) then
 some (false)
 else
 Zn ((0:Int)≤(IntKind.wrap .u64 a))<|
 Zn (((iop .shl .i64 1 (IntKind.wrap .u64 a)):Int)≠0)<|
 if (cop .eql (iop .rem .i64 b (iop .shl .i64 1 (IntKind.wrap .u64 a))) 0) then
 some ((cop .leq (iop .add .i64 b (iop .shl .i64 1 (IntKind.wrap .u64 a))) 1099511627776))
 else
 some (false)):=by kernel_rfl
noncomputable def F75:Fn:=⟨8,[2],[],[],0,[],[],Tryz.f75,[.agg [.int .i64,.int .i64,.bool]],[.agg [.int .i64,.int .i64]],[]⟩
theorem Zo6:F75.S.Ok Tryz.prog 75:=F75.ok Tryz.func75 (by kernel_rfl) trivial
noncomputable def g75 (a c:Int) (d:Bool):Option (Int×Int):=F75.S.g [.i a,.i c,.b d]
theorem Zm9 (a b:Int) (c:Bool):g75 a b c =
 (some (a,b)):=by kernel_rfl
noncomputable def F86:Fn:=⟨13,[2],[],[],0,[],[],Tryz.f86,[.agg [.int .i64,.int .i64]],[.c (.int .i64)],[(46,F46.S)]⟩
theorem Zof:F86.S.Ok Tryz.prog 86:=F86.ok Tryz.func86 (by kernel_rfl) ⟨ZlN,trivial⟩
noncomputable def g86 (a b:Int):Option (Int):=F86.S.g [.i a,.i b]
theorem Zmz (b a:Int):g86 b a =
 ((g46 b a).bind fun c=>
 if (!c) then
 some (0)
 else
 Zn ((0:Int)≤(IntKind.wrap .u64 a))<|
 some ((iop .add .i64 b (iop .shl .i64 1 (IntKind.wrap .u64 a))))):=by kernel_rfl
noncomputable def F65:Fn:=⟨25,[4],[],[],0,[],[],Tryz.f65,[.agg [.int .i64,.int .i64],.agg [.int .i64,.int .i64]],[.c (.bool)],[(46,F46.S),(86,F86.S)]⟩
theorem ZoA:F65.S.Ok Tryz.prog 65:=F65.ok Tryz.func65 (by kernel_rfl) ⟨ZlN,⟨Zof,trivial⟩⟩
noncomputable def g65 (a b c d:Int):Option (Bool):=F65.S.g [.i a,.i b,.i c,.i d]
theorem ZmS (a c b d:Int):g65 a c b d =
 ((g46 a c).bind fun e=>
 if e then
 (g46 b d).bind fun f=>
 if f then
 if (cop .leq a b) then
 (g86 b d).bind fun g=>
 (g86 a c).bind fun h=>
 some ((cop .leq g h))
 else
 some (false)
 else
 some (false)
 else
 some (false)):=by kernel_rfl
noncomputable def F47:Fn:=⟨20,[4],[(2,[(0,.c (.slice 3)),(3,.box [.int .i64,.int .i64]),(5,.c (.int .i64))])],[],0,[],[],Tryz.f47,[.c (.slice 3),.agg [.int .i64,.int .i64]],[.c (.int .i64)],[(75,F75.S),(65,F65.S)]⟩
theorem ZoY:F47.S.Ok Tryz.prog 47:=F47.ok Tryz.func47 (by kernel_rfl) ⟨Zo6,⟨ZoA,trivial⟩⟩
noncomputable def g47 (a:LL) (b c:Int):Option (Int):=F47.S.g [.l a,.i b,.i c]
noncomputable def Zgb (k:Nat) (a:LL) (b c d:Int):Option (Int):=F47.lp [0] 0 r0 k [.l a,.i b,.i c,.i d]
theorem ZeI (k:Nat) (b:LL) (c d a:Int):Zgb (k+1) b c d a =
 (if (cop .lss a (List.length b:Int)) then
 Zq b a [.int .i64,.int .i64,.bool] fun (e:Int×Int×Bool)=>
 (g75 e.1 e.2.1 e.2.2).bind fun f=>
 (g65 f.1 f.2 c d).bind fun g=>
 if g then
 some (a)
 else
 Zgb k b c d (iop .add .i64 a 1)
 else
 some ((-1))):=by kernel_rfl
theorem Zmj (a:LL) (b c:Int):g47 a b c =
 (Zgb Z2 a b c 0):=by kernel_rfl
noncomputable def F17:Fn:=⟨8,[2],[],[],0,[],[],Tryz.f17,[.agg hs3],[.c (.bool)],[]⟩
theorem ZnO:F17.S.Ok Tryz.prog 17:=F17.ok Tryz.func17 (by kernel_rfl) trivial
noncomputable def g17 (a c d:Int) (e:LL) (f h j k m n:Int) (o:Bool) (p q r s:Int):Option (Bool):=F17.S.g [.i a,.i c,.i d,.l e,.i f,.i h,.i j,.i k,.i m,.i n,.b o,.i p,.i q,.i r,.i s]
theorem Zl3 (a b c:Int) (d:LL) (e f g h i j:Int) (k:Bool) (l m n o:Int):g17 a b c d e f g h i j k l m n o =
 (some (((cop .eql a 0)&&((cop .eql b 0)&&((cop .eql c 0)&&true))))):=by kernel_rfl
noncomputable def F48:Fn:=⟨21,[6],[(2,[(0,.c (.slice 15)),(1,.c (.int .i64)),(2,.c (.int .i64)),(7,.c (.int .i64))])],[],0,[],[],Tryz.f48,[.c (.slice 15),.c (.int .i64),.c (.int .i64)],[.c (.bool)],[(17,F17.S)]⟩
theorem Zou:F48.S.Ok Tryz.prog 48:=F48.ok Tryz.func48 (by kernel_rfl) ⟨ZnO,trivial⟩
noncomputable def g48 (a:LL) (b c:Int):Option (Bool):=F48.S.g [.l a,.i b,.i c]
noncomputable def ZgC (k:Nat) (a:LL) (b c d:Int):Option (Bool):=F48.lp [0] 0 r0 k [.l a,.i b,.i c,.i d]
theorem ZfG (k:Nat) (c:LL) (d e b:Int):ZgC (k+1) c d e b =
 (if (cop .lss b e) then
 Zq c (iop .add .i64 d b) hs3 fun (a:Qt9)=>
 (g17 a.1 a.2.1 a.2.2.1 a.2.2.2.1 a.2.2.2.2.1 a.2.2.2.2.2.1 a.2.2.2.2.2.2.1 a.2.2.2.2.2.2.2.1 a.2.2.2.2.2.2.2.2.1 a.2.2.2.2.2.2.2.2.2.1 a.2.2.2.2.2.2.2.2.2.2.1 a.2.2.2.2.2.2.2.2.2.2.2.1 (d4 (d8 a)).1 (d4 (d8 a)).2.1 (d2 (d4 (d8 a)))).bind fun f=>
 if (!f) then
 some (true)
 else
 ZgC k c d e (iop .add .i64 b 1)
 else
 some (false)):=by kernel_rfl
theorem ZmA (a:LL) (b c:Int):g48 a b c =
 (ZgC Z2 a b c 0):=by kernel_rfl
noncomputable def F62:Fn:=⟨5,[2],[],[],0,[],[],Tryz.f62,[.c (.slice 3)],[.c (.own false 50)],[]⟩
theorem Zoi:F62.S.Ok Tryz.prog 62:=F62.ok Tryz.func62 (by kernel_rfl) trivial
noncomputable def g62 (a:LL):Option (LL):=F62.S.g [.l a]
theorem Zlm (a:LL):g62 a =
 (Zn (Z0 E0 a 24)<|
 some (a)):=by kernel_rfl
noncomputable def F36:Fn:=⟨8,[2],[],[],0,[],[],Tryz.f36,[.agg hs6],[.agg hs6],[(62,F62.S)]⟩
theorem Zk7:F36.S.Ok Tryz.prog 36:=F36.ok Tryz.func36 (by kernel_rfl) ⟨Zoi,trivial⟩
noncomputable def g36 (a c d:Int) (e:LL) (f h j k m n:Int) (o:Bool):Option (Qt15):=F36.S.g [.i a,.i c,.i d,.l e,.i f,.i h,.i j,.i k,.i m,.i n,.b o]
theorem Zln (a b c:Int) (d:LL) (e f g h i j:Int) (k:Bool):g36 a b c d e f g h i j k =
 ((g62 d).bind fun l=>
 some (a,b,c,l,e,f,g,h,i,j,k)):=by kernel_rfl
noncomputable def F89:Fn:=⟨12,[2],[],[],0,[],[],Tryz.f89,[.c (.int .i64)],[.c (.int .i64)],[]⟩
theorem Zpy:F89.S.Ok Tryz.prog 89:=F89.ok Tryz.func89 (by kernel_rfl) trivial
noncomputable def g89 (a:Int):Option (Int):=F89.S.g [.i a]
theorem Zm2 (a:Int):g89 a =
 (if (cop .eql a 3) then
 some (12)
 else
 if (cop .eql a 4) then
 some (6)
 else
 if (cop .eql a 5) then
 some (10)
 else
 if (cop .eql a 6) then
 some (16)
 else
 some (0)):=by kernel_rfl
noncomputable def F69:Fn:=⟨35,[4],[],[],0,[],[],Tryz.f69,[.c (.int .i64),.c (.int .i64)],[.c (.bool)],[(89,F89.S)]⟩
theorem Zoe:F69.S.Ok Tryz.prog 69:=F69.ok Tryz.func69 (by kernel_rfl) ⟨Zpy,trivial⟩
noncomputable def g69 (a b:Int):Option (Bool):=F69.S.g [.i a,.i b]
theorem Zm3 (a b:Int):g69 a b =
 (if (cop .eql a 1) then
 if (cop .geq b 6) then
 some ((cop .leq b 40))
 else
 some (false)
 else
 if (cop .eql a 2) then
 if (cop .geq b 12) then
 some ((cop .leq b 40))
 else
 some (false)
 else
 if (cop .geq a 3) then
 if (cop .leq a 6) then
 (g89 a).bind fun c=>
 some ((cop .eql b c))
 else
 some (false)
 else
 some (false)):=by kernel_rfl
noncomputable def F50:Fn:=⟨8,[2],[],[],0,[],[],Tryz.f50,[.agg hs11],[.agg [.int .i64,.int .i64]],[]⟩
theorem Zn6:F50.S.Ok Tryz.prog 50:=F50.ok Tryz.func50 (by kernel_rfl) trivial
noncomputable def g50 (a c d e f h:Int) (j:Bool):Option (Int×Int):=F50.S.g [.i a,.i c,.i d,.i e,.i f,.i h,.b j]
theorem Zm8 (c a b d e f:Int) (g:Bool):g50 c a b d e f g =
 (some (a,b)):=by kernel_rfl
noncomputable def F70:Fn:=⟨23,[4],[],[],0,[],[],Tryz.f70,[.c (.int .i64),.c (.int .i64)],[.c (.bool)],[]⟩
theorem Zor:F70.S.Ok Tryz.prog 70:=F70.ok Tryz.func70 (by kernel_rfl) trivial
noncomputable def g70 (a b:Int):Option (Bool):=F70.S.g [.i a,.i b]
theorem ZmP (b a:Int):g70 b a =
 (if (cop .geq a 0) then
 if (cop .eql b 32) then
 if (cop .leq a 1) then
 some (true)
 else
 if (cop .eql b 39) then
 some ((cop .leq a 2))
 else
 some (false)
 else
 if (cop .eql b 39) then
 some ((cop .leq a 2))
 else
 some (false)
 else
 some (false)):=by kernel_rfl
noncomputable def F68:Fn:=⟨64,[2],[],[],0,[],[],Tryz.f68,[.agg hs11],[.c (.bool)],[(69,F69.S),(50,F50.S),(46,F46.S),(70,F70.S)]⟩
theorem Zn0:F68.S.Ok Tryz.prog 68:=F68.ok Tryz.func68 (by kernel_rfl) ⟨Zoe,⟨Zn6,⟨ZlN,⟨Zor,trivial⟩⟩⟩⟩
noncomputable def g68 (a c d e f h:Int) (j:Bool):Option (Bool):=F68.S.g [.i a,.i c,.i d,.i e,.i f,.i h,.b j]
theorem ZmF (a g f e c d:Int) (b:Bool):g68 a g f e c d b =
 ((g69 a f).bind fun i=>
 if (!i) then
 some (false)
 else
 (g50 a g f e c d b).bind fun h=>
 (g46 h.1 h.2).bind fun j=>
 if (!j) then
 some (false)
 else
 if (cop .lss e 0) then
 some (false)
 else
 if (cop .gtr e 7) then
 some (false)
 else
 if (cop .eql a 3) then
 (g70 c d).bind fun k=>
 if (!k) then
 some (false)
 else
 if (cop .neq a 3) then
 if (cop .neq c 0) then
 some (false)
 else
 if (cop .neq d 0) then
 some (false)
 else
 if (!b) then
 some (true)
 else
 if (cop .eql a 1) then
 some (true)
 else
 some ((cop .eql a 2))
 else
 if (!b) then
 some (true)
 else
 if (cop .eql a 1) then
 some (true)
 else
 some ((cop .eql a 2))
 else
 if (cop .neq a 3) then
 if (cop .neq c 0) then
 some (false)
 else
 if (cop .neq d 0) then
 some (false)
 else
 if (!b) then
 some (true)
 else
 if (cop .eql a 1) then
 some (true)
 else
 some ((cop .eql a 2))
 else
 if (!b) then
 some (true)
 else
 if (cop .eql a 1) then
 some (true)
 else
 some ((cop .eql a 2))):=by kernel_rfl
noncomputable def F41:Fn:=⟨136,[14,15],[(16,[(1,.c (.int .i64)),(2,.c (.int .i64)),(3,.c (.int .i64)),(4,.c (.int .i64)),(5,.c (.int .i64)),(6,.c (.int .i64)),(7,.box hs11),(16,.c (.bool)),(17,.c (.int .i64)),(19,.c (.own false 52)),(20,.c (.int .i64))])],[],0,[],[],Tryz.f41,[.agg hs11,.c (.int .i64),.c (.int .i64),.c (.int .i64),.c (.int .i64),.c (.int .i64),.c (.int .i64)],[.c (.slice 7),.c (.int .i64)],[(68,F68.S),(69,F69.S),(70,F70.S)]⟩
theorem Zot:F41.S.Ok Tryz.prog 41:=F41.ok Tryz.func41 (by kernel_rfl) ⟨Zn0,⟨Zoe,⟨Zor,trivial⟩⟩⟩
noncomputable def g41 (a c d e f h:Int) (j:Bool) (k l m n o p:Int):Option (LL×Int):=F41.S.g [.i a,.i c,.i d,.i e,.i f,.i h,.b j,.i k,.i l,.i m,.i n,.i o,.i p]
noncomputable def Ko (k:Nat) (a c d e f g h j m n o p:Int) (q r:Bool) (s:Int) (t:LL) (u:Int):Option (LL×Int):=F41.lp [0,1,1,1,0,1,0,0,1,1,1,1,0,0,1,3,1,1,1,0,1,0] 0 r0 k [.i a,.i c,.i d,.i e,.i f,.i g,.i h,.i j,.i m,.i n,.i o,.i p,.b q,.b r,.i s,.l t,.i u]
theorem ZfA (k:Nat) (b c j l d m o e p f q r:Int) (g n:Bool) (h:Int) (i:LL) (a:Int):Ko (k+1) b c j l d m o e p f q r g n h i a =
 (if (cop .lss a m) then
 if n then
 Zn (Z0 i (E0++[[AV.val (.int .i64 b),AV.val (.int .i64 (iop .add .i64 (iop .add .i64 e d) (iop .mul .i64 a h))),AV.val (.int .i64 c),AV.val (.int .i64 f),AV.val (.int .i64 l),AV.val (.int .i64 j),AV.val (.bool g)]]) 56)<|
 Ko k b c j l d m o e p f q r g n h (i++(E0++[[AV.val (.int .i64 b),AV.val (.int .i64 (iop .add .i64 (iop .add .i64 e d) (iop .mul .i64 a h))),AV.val (.int .i64 c),AV.val (.int .i64 f),AV.val (.int .i64 l),AV.val (.int .i64 j),AV.val (.bool g)]])) (iop .add .i64 a 1)
 else
 Zn (Z0 i (E0++[[AV.val (.int .i64 b),AV.val (.int .i64 (iop .add .i64 (iop .add .i64 e d) (iop .mul .i64 a h))),AV.val (.int .i64 c),AV.val (.int .i64 f),AV.val (.int .i64 0),AV.val (.int .i64 0),AV.val (.bool g)]]) 56)<|
 Ko k b c j l d m o e p f q r g n h (i++(E0++[[AV.val (.int .i64 b),AV.val (.int .i64 (iop .add .i64 (iop .add .i64 e d) (iop .mul .i64 a h))),AV.val (.int .i64 c),AV.val (.int .i64 f),AV.val (.int .i64 0),AV.val (.int .i64 0),AV.val (.bool g)]])) (iop .add .i64 a 1)
 else
 some (i,0)):=by kernel_rfl
theorem ZlL (g i b h j k:Int) (f:Bool) (c a l m d e:Int):g41 g i b h j k f c a l m d e =
 ((g68 g i b h j k f).bind fun n=>
 if (!n) then
 some (E0,5)
 else
 if (cop .neq g 1) then
 some (E0,5)
 else
 if (cop .eql (iop .and .i64 h 2) 0) then
 some (E0,8)
 else
 (g69 c a).bind fun o=>
 if (!o) then
 some (E0,1)
 else
 if (cop .eql c 3) then
 (g70 m l).bind fun p=>
 if (!p) then
 some (E0,1)
 else
 if (cop .lss e 1) then
 some (E0,1)
 else
 if (cop .gtr e 8) then
 some (E0,1)
 else
 if (cop .lss d 0) then
 some (E0,1)
 else
 if f then
 if (cop .neq c 1) then
 if (cop .neq c 2) then
 some (E0,5)
 else
 Zn ((0:Int)≤(IntKind.wrap .u64 a))<|
 Zn ((0:Int)≤(IntKind.wrap .u64 b))<|
 Zn (((iop .shl .i64 1 (IntKind.wrap .u64 a)):Int)≠0)<|
 if (cop .neq (iop .rem .i64 d (iop .shl .i64 1 (IntKind.wrap .u64 a))) 0) then
 some (E0,6)
 else
 if (cop .gtr d (iop .shl .i64 1 (IntKind.wrap .u64 b))) then
 some (E0,6)
 else
 if (cop .gtr (iop .mul .i64 e (iop .shl .i64 1 (IntKind.wrap .u64 a))) (iop .sub .i64 (iop .shl .i64 1 (IntKind.wrap .u64 b)) d)) then
 some (E0,6)
 else
 if (cop .eql c 1) then
 if (cop .geq a b) then
 some (E0,6)
 else
 Ko Z2 c a l m d e g i b h j k f (cop .eql c 3) (iop .shl .i64 1 (IntKind.wrap .u64 a)) E0 0
 else
 Ko Z2 c a l m d e g i b h j k f (cop .eql c 3) (iop .shl .i64 1 (IntKind.wrap .u64 a)) E0 0
 else
 Zn ((0:Int)≤(IntKind.wrap .u64 a))<|
 Zn ((0:Int)≤(IntKind.wrap .u64 b))<|
 Zn (((iop .shl .i64 1 (IntKind.wrap .u64 a)):Int)≠0)<|
 if (cop .neq (iop .rem .i64 d (iop .shl .i64 1 (IntKind.wrap .u64 a))) 0) then
 some (E0,6)
 else
 if (cop .gtr d (iop .shl .i64 1 (IntKind.wrap .u64 b))) then
 some (E0,6)
 else
 if (cop .gtr (iop .mul .i64 e (iop .shl .i64 1 (IntKind.wrap .u64 a))) (iop .sub .i64 (iop .shl .i64 1 (IntKind.wrap .u64 b)) d)) then
 some (E0,6)
 else
 if (cop .eql c 1) then
 if (cop .geq a b) then
 some (E0,6)
 else
 Ko Z2 c a l m d e g i b h j k f (cop .eql c 3) (iop .shl .i64 1 (IntKind.wrap .u64 a)) E0 0
 else
 Ko Z2 c a l m d e g i b h j k f (cop .eql c 3) (iop .shl .i64 1 (IntKind.wrap .u64 a)) E0 0
 else
 Zn ((0:Int)≤(IntKind.wrap .u64 a))<|
 Zn ((0:Int)≤(IntKind.wrap .u64 b))<|
 Zn (((iop .shl .i64 1 (IntKind.wrap .u64 a)):Int)≠0)<|
 if (cop .neq (iop .rem .i64 d (iop .shl .i64 1 (IntKind.wrap .u64 a))) 0) then
 some (E0,6)
 else
 if (cop .gtr d (iop .shl .i64 1 (IntKind.wrap .u64 b))) then
 some (E0,6)
 else
 if (cop .gtr (iop .mul .i64 e (iop .shl .i64 1 (IntKind.wrap .u64 a))) (iop .sub .i64 (iop .shl .i64 1 (IntKind.wrap .u64 b)) d)) then
 some (E0,6)
 else
 if (cop .eql c 1) then
 if (cop .geq a b) then
 some (E0,6)
 else
 Ko Z2 c a l m d e g i b h j k f (cop .eql c 3) (iop .shl .i64 1 (IntKind.wrap .u64 a)) E0 0
 else
 Ko Z2 c a l m d e g i b h j k f (cop .eql c 3) (iop .shl .i64 1 (IntKind.wrap .u64 a)) E0 0
 else
 if (cop .lss e 1) then
 some (E0,1)
 else
 if (cop .gtr e 8) then
 some (E0,1)
 else
 if (cop .lss d 0) then
 some (E0,1)
 else
 if f then
 if (cop .neq c 1) then
 if (cop .neq c 2) then
 some (E0,5)
 else
 Zn ((0:Int)≤(IntKind.wrap .u64 a))<|
 Zn ((0:Int)≤(IntKind.wrap .u64 b))<|
 Zn (((iop .shl .i64 1 (IntKind.wrap .u64 a)):Int)≠0)<|
 if (cop .neq (iop .rem .i64 d (iop .shl .i64 1 (IntKind.wrap .u64 a))) 0) then
 some (E0,6)
 else
 if (cop .gtr d (iop .shl .i64 1 (IntKind.wrap .u64 b))) then
 some (E0,6)
 else
 if (cop .gtr (iop .mul .i64 e (iop .shl .i64 1 (IntKind.wrap .u64 a))) (iop .sub .i64 (iop .shl .i64 1 (IntKind.wrap .u64 b)) d)) then
 some (E0,6)
 else
 if (cop .eql c 1) then
 if (cop .geq a b) then
 some (E0,6)
 else
 Ko Z2 c a l m d e g i b h j k f (cop .eql c 3) (iop .shl .i64 1 (IntKind.wrap .u64 a)) E0 0
 else
 Ko Z2 c a l m d e g i b h j k f (cop .eql c 3) (iop .shl .i64 1 (IntKind.wrap .u64 a)) E0 0
 else
 Zn ((0:Int)≤(IntKind.wrap .u64 a))<|
 Zn ((0:Int)≤(IntKind.wrap .u64 b))<|
 Zn (((iop .shl .i64 1 (IntKind.wrap .u64 a)):Int)≠0)<|
 if (cop .neq (iop .rem .i64 d (iop .shl .i64 1 (IntKind.wrap .u64 a))) 0) then
 some (E0,6)
 else
 if (cop .gtr d (iop .shl .i64 1 (IntKind.wrap .u64 b))) then
 some (E0,6)
 else
 if (cop .gtr (iop .mul .i64 e (iop .shl .i64 1 (IntKind.wrap .u64 a))) (iop .sub .i64 (iop .shl .i64 1 (IntKind.wrap .u64 b)) d)) then
 some (E0,6)
 else
 if (cop .eql c 1) then
 if (cop .geq a b) then
 some (E0,6)
 else
 Ko Z2 c a l m d e g i b h j k f (cop .eql c 3) (iop .shl .i64 1 (IntKind.wrap .u64 a)) E0 0
 else
 Ko Z2 c a l m d e g i b h j k f (cop .eql c 3) (iop .shl .i64 1 (IntKind.wrap .u64 a)) E0 0
 else
 Zn ((0:Int)≤(IntKind.wrap .u64 a))<|
 Zn ((0:Int)≤(IntKind.wrap .u64 b))<|
 Zn (((iop .shl .i64 1 (IntKind.wrap .u64 a)):Int)≠0)<|
 if (cop .neq (iop .rem .i64 d (iop .shl .i64 1 (IntKind.wrap .u64 a))) 0) then
 some (E0,6)
 else
 if (cop .gtr d (iop .shl .i64 1 (IntKind.wrap .u64 b))) then
 some (E0,6)
 else
 if (cop .gtr (iop .mul .i64 e (iop .shl .i64 1 (IntKind.wrap .u64 a))) (iop .sub .i64 (iop .shl .i64 1 (IntKind.wrap .u64 b)) d)) then
 some (E0,6)
 else
 if (cop .eql c 1) then
 if (cop .geq a b) then
 some (E0,6)
 else
 Ko Z2 c a l m d e g i b h j k f (cop .eql c 3) (iop .shl .i64 1 (IntKind.wrap .u64 a)) E0 0
 else
 Ko Z2 c a l m d e g i b h j k f (cop .eql c 3) (iop .shl .i64 1 (IntKind.wrap .u64 a)) E0 0):=by kernel_rfl
noncomputable def F76:Fn:=⟨18,[4],[(2,[(0,.c (.slice 1)),(1,.c (.int .i64)),(5,.c (.int .i64))])],[],0,[],[],Tryz.f76,[.c (.slice 1),.c (.int .i64)],[.c (.bool)],[]⟩
theorem ZoV:F76.S.Ok Tryz.prog 76:=F76.ok Tryz.func76 (by kernel_rfl) trivial
noncomputable def g76 (a:LL) (b:Int):Option (Bool):=F76.S.g [.l a,.i b]
noncomputable def Zd2 (k:Nat) (a:LL) (b c:Int):Option (Bool):=F76.lp [0] 0 r0 k [.l a,.i b,.i c]
theorem ZeG (k:Nat) (a:LL) (c b:Int):Zd2 (k+1) a c b =
 (if (cop .lss b (List.length a:Int)) then
 Zq a b [.int .i64] fun (d:Int)=>
 if (cop .eql d c) then
 some (true)
 else
 Zd2 k a c (iop .add .i64 b 1)
 else
 some (false)):=by kernel_rfl
theorem Zlr (a:LL) (b:Int):g76 a b =
 (Zd2 Z2 a b 0):=by kernel_rfl
noncomputable def F49:Fn:=⟨94,[10],[],[],0,[],[],Tryz.f49,[.c (.int .i64),.c (.slice 15),.c (.slice 1),.agg hs6,.agg hs5],[.c (.int .i64)],[(41,F41.S),(48,F48.S),(76,F76.S)]⟩
theorem Zo7:F49.S.Ok Tryz.prog 49:=F49.ok Tryz.func49 (by kernel_rfl) ⟨Zot,⟨Zou,⟨ZoV,trivial⟩⟩⟩
noncomputable def g49 (a:Int) (c d:LL) (e f h:Int) (j:LL) (k m n o p q:Int) (r:Bool) (s t u v w x y z A C D E:Int):Option (Int):=F49.S.g [.i a,.l c,.l d,.i e,.i f,.i h,.l j,.i k,.i m,.i n,.i o,.i p,.i q,.b r,.i s,.i t,.i u,.i v,.i w,.i x,.i y,.i z,.i A,.i C,.i D,.i E]
theorem Zm4 (i:Int) (e j:LL) (u v w:Int) (c:LL) (b k l f m n:Int) (o:Bool) (d x g p y q r s t h z A:Int):g49 i e j u v w c b k l f m n o d x g p y q r s t h z A =
 (if (cop .eql d 2) then
 (g41 b k l f m n o q r s i t h).bind fun a=>
 if (cop .neq a.2 0) then
 some (a.2)
 else
 (g48 e g h).bind fun C=>
 if C then
 some (3)
 else
 if (cop .geq (List.length c:Int) 8) then
 some (9)
 else
 some (0)
 else
 if (cop .eql d 3) then
 (g48 e g 1).bind fun a=>
 if a then
 some (3)
 else
 if (cop .geq (List.length c:Int) 8) then
 some (9)
 else
 some (0)
 else
 if (cop .eql d 4) then
 if (cop .eql b 3) then
 some (5)
 else
 if (cop .eql b 5) then
 some (5)
 else
 if (cop .eql b 6) then
 some (5)
 else
 if (cop .eql (iop .and .i64 f 4) 0) then
 some (8)
 else
 if (cop .geq (List.length c:Int) 8) then
 some (9)
 else
 (g76 j p).bind fun a=>
 if (!a) then
 some (10)
 else
 some (0)
 else
 some (0)):=by kernel_rfl
noncomputable def F25:Fn:=⟨153,[14,15,16],[(6,[(0,.c (.int .i64)),(1,.c (.int .i64)),(2,.c (.int .i64)),(3,.c (.slice 15)),(4,.c (.slice 3)),(5,.c (.slice 1)),(13,.box hs5),(14,.box hs0),(17,.box hs0),(18,.c (.slice 1)),(19,.c (.int .i64))])],[],0,[],[],Tryz.f25,[.c (.int .i64),.c (.int .i64),.c (.int .i64),.c (.slice 15),.c (.slice 3),.c (.slice 1),.agg hs5],[.agg hs0,.c (.slice 1),.c (.int .i64)],[(43,F43.S),(44,F44.S),(45,F45.S),(46,F46.S),(47,F47.S),(48,F48.S),(17,F17.S),(36,F36.S),(49,F49.S),(50,F50.S)]⟩
theorem ZoS:F25.S.Ok Tryz.prog 25:=F25.ok Tryz.func25 (by kernel_rfl) ⟨Zpd,⟨ZpA,⟨Zpr,⟨ZlN,⟨ZoY,⟨Zou,⟨ZnO,⟨Zk7,⟨Zo7,⟨Zn6,trivial⟩⟩⟩⟩⟩⟩⟩⟩⟩⟩
noncomputable def g25 (a b c:Int) (d e f:LL) (h j k m n o p q r s t u:Int):Option (Qt1):=F25.S.g [.i a,.i b,.i c,.l d,.l e,.l f,.i h,.i j,.i k,.i m,.i n,.i o,.i p,.i q,.i r,.i s,.i t,.i u]
noncomputable def Zc5 (k:Nat) (a c d:Int) (e f g:LL) (h j m n o p q r s t u v w x y z A C D E G H J K L M N O P Q R T:Int) (U:LL) (V W X Y Z aa:Int) (ab:Bool) (ac ad ae af ag ah ai aj ak al am an ao ap aq ar aZ au av aw:Int) (ax:LL) (ay az a0 a1 a2 a3:Int) (a4:Bool) (a5:LL) (a6:Int):Option (Qt1):=F25.lp [1,1,1,1,1,1,0,1,0,1,2] 0 r0 k [.i a,.i c,.i d,.l e,.l f,.l g,.i h,.i j,.i m,.i n,.i o,.i p,.i q,.i r,.i s,.i t,.i u,.i v,.i w,.i x,.i y,.i z,.i A,.i C,.i D,.i E,.i G,.i H,.i J,.i K,.i L,.i M,.i N,.i O,.i P,.i Q,.i R,.i T,.l U,.i V,.i W,.i X,.i Y,.i Z,.i aa,.b ab,.i ac,.i ad,.i ae,.i af,.i ag,.i ah,.i ai,.i aj,.i ak,.i al,.i am,.i an,.i ao,.i ap,.i aq,.i ar,.i aZ,.i au,.i av,.i aw,.l ax,.i ay,.i az,.i a0,.i a1,.i a2,.i a3,.b a4,.l a5,.i a6]
theorem ZeP (k:Nat) (x0 x1 R:Int) (K x4 x5:LL) (O L P T U V M W N X Y Z af ag ah ai aj ak al am an ao ap aq ar aZ au av aw ax ay az:Int) (a0:LL) (a1 a2 a3 a4 a5 a6:Int) (a7:Bool) (e f g h i j l m n o p q r s t u v w x y:Int) (z:LL) (A C D E G H:Int) (J:Bool) (Q:LL) (ad:Int):Zc5 (k+1) x0 x1 R K x4 x5 O L P T U V M W N X Y Z af ag ah ai aj ak al am an ao ap aq ar aZ au av aw ax ay az a0 a1 a2 a3 a4 a5 a6 a7 e f g h i j l m n o p q r s t u v w x y z A C D E G H J Q ad =
 (if (cop .lss ad (List.length Q:Int)) then
 Zq Q ad [.int .i64] fun (b:Int)=>
 Zq K b hs3 fun (c:Qt9)=>
 (g45 c.1 c.2.1 c.2.2.1 c.2.2.2.1 c.2.2.2.2.1 c.2.2.2.2.2.1 c.2.2.2.2.2.2.1 c.2.2.2.2.2.2.2.1 c.2.2.2.2.2.2.2.2.1 c.2.2.2.2.2.2.2.2.2.1 c.2.2.2.2.2.2.2.2.2.2.1 c.2.2.2.2.2.2.2.2.2.2.2.1 (d4 (d8 c)).1 (d4 (d8 c)).2.1 (d2 (d4 (d8 c)))).bind fun d=>
 if d then
 some (e,f,g,h,i,j,l,m,n,o,p,q,r,s,t,u,v,w,x,y,z,A,C,D,E,G,H,J,E0,4)
 else
 Zc5 k x0 x1 R K x4 x5 O L P T U V M W N X Y Z af ag ah ai aj ak al am an ao ap aq ar aZ au av aw ax ay az a0 a1 a2 a3 a4 a5 a6 a7 e f g h i j l m n o p q r s t u v w x y z A C D E G H J Q (iop .add .i64 ad 1)
 else
 if (cop .eql O 1) then
 (g46 N M).bind fun b=>
 if (!b) then
 some (e,f,g,h,i,j,l,m,n,o,p,q,r,s,t,u,v,w,x,y,z,A,C,D,E,G,H,J,E0,6)
 else
 (g47 x4 N M).bind fun c=>
 if (cop .lss c 0) then
 some (e,f,g,h,i,j,l,m,n,o,p,q,r,s,t,u,v,w,x,y,z,A,C,D,E,G,H,J,E0,11)
 else
 (g48 K P 1).bind fun bb=>
 if bb then
 some (e,f,g,h,i,j,l,m,n,o,p,q,r,s,t,u,v,w,x,y,z,A,C,D,E,G,H,J,E0,3)
 else
 some (x0,x1,0,O,L,P,T,U,V,M,W,N,X,Y,Z,c,R,0,0,0,E0,0,0,0,0,0,0,false,Q,0)
 else
 Zq K L hs3 fun (b:Qt9)=>
 (g17 b.1 b.2.1 b.2.2.1 b.2.2.2.1 b.2.2.2.2.1 b.2.2.2.2.2.1 b.2.2.2.2.2.2.1 b.2.2.2.2.2.2.2.1 b.2.2.2.2.2.2.2.2.1 b.2.2.2.2.2.2.2.2.2.1 b.2.2.2.2.2.2.2.2.2.2.1 b.2.2.2.2.2.2.2.2.2.2.2.1 (d4 (d8 b)).1 (d4 (d8 b)).2.1 (d2 (d4 (d8 b)))).bind fun bc=>
 if bc then
 some (e,f,g,h,i,j,l,m,n,o,p,q,r,s,t,u,v,w,x,y,z,A,C,D,E,G,H,J,E0,2)
 else
 Zq K L hs3 fun (d:Qt9)=>
 (g36 d.1 d.2.1 d.2.2.1 d.2.2.2.1 d.2.2.2.2.1 d.2.2.2.2.2.1 d.2.2.2.2.2.2.1 d.2.2.2.2.2.2.2.1 d.2.2.2.2.2.2.2.2.1 d.2.2.2.2.2.2.2.2.2.1 d.2.2.2.2.2.2.2.2.2.2.1).bind fun a=>
 (g49 R K x5 a.1 a.2.1 a.2.2.1 a.2.2.2.1 a.2.2.2.2.1 a.2.2.2.2.2.1 a.2.2.2.2.2.2.1 a.2.2.2.2.2.2.2.1 a.2.2.2.2.2.2.2.2.1 a.2.2.2.2.2.2.2.2.2.1 a.2.2.2.2.2.2.2.2.2.2 O L P T U V M W N X Y Z).bind fun a8=>
 if (cop .neq a8 0) then
 some (e,f,g,h,i,j,l,m,n,o,p,q,r,s,t,u,v,w,x,y,z,A,C,D,E,G,H,J,E0,a8)
 else
 (g50 a.2.2.2.2.1 a.2.2.2.2.2.1 a.2.2.2.2.2.2.1 a.2.2.2.2.2.2.2.1 a.2.2.2.2.2.2.2.2.1 a.2.2.2.2.2.2.2.2.2.1 a.2.2.2.2.2.2.2.2.2.2).bind fun a9=>
 (g47 x4 a9.1 a9.2).bind fun ba=>
 if (cop .lss ba 0) then
 some (e,f,g,h,i,j,l,m,n,o,p,q,r,s,t,u,v,w,x,y,z,A,C,D,E,G,H,J,E0,11)
 else
 some (x0,x1,0,O,L,P,T,U,V,M,W,N,X,Y,Z,ba,R,a.1,a.2.1,a.2.2.1,a.2.2.2.1,a.2.2.2.2.1,a.2.2.2.2.2.1,a.2.2.2.2.2.2.1,a.2.2.2.2.2.2.2.1,a.2.2.2.2.2.2.2.2.1,a.2.2.2.2.2.2.2.2.2.1,a.2.2.2.2.2.2.2.2.2.2,Q,0)):=by kernel_rfl
theorem Zj2 (b n o:Int) (p q r:LL) (a c d e f g h i j k l m:Int):g25 b n o p q r a c d e f g h i j k l m =
 (if (cop .lss a 1) then
 some (0,0,0,0,0,0,0,0,0,0,0,0,0,0,0,0,0,0,0,0,E0,0,0,0,0,0,0,false,E0,1)
 else
 if (cop .gtr a 6) then
 some (0,0,0,0,0,0,0,0,0,0,0,0,0,0,0,0,0,0,0,0,E0,0,0,0,0,0,0,false,E0,1)
 else
 if (cop .lss b 0) then
 some (0,0,0,0,0,0,0,0,0,0,0,0,0,0,0,0,0,0,0,0,E0,0,0,0,0,0,0,false,E0,1)
 else
 if (cop .geq b 32) then
 some (0,0,0,0,0,0,0,0,0,0,0,0,0,0,0,0,0,0,0,0,E0,0,0,0,0,0,0,false,E0,1)
 else
 if (cop .lss n 1) then
 some (0,0,0,0,0,0,0,0,0,0,0,0,0,0,0,0,0,0,0,0,E0,0,0,0,0,0,0,false,E0,1)
 else
 if (cop .gtr n 1073741824) then
 some (0,0,0,0,0,0,0,0,0,0,0,0,0,0,0,0,0,0,0,0,E0,0,0,0,0,0,0,false,E0,1)
 else
 if (cop .neq o 32) then
 if (cop .neq o 39) then
 some (0,0,0,0,0,0,0,0,0,0,0,0,0,0,0,0,0,0,0,0,E0,0,0,0,0,0,0,false,E0,1)
 else
 (g43 b (List.length p:Int) a c d e f g h i j k l m).bind fun s=>
 if s then
 some (0,0,0,0,0,0,0,0,0,0,0,0,0,0,0,0,0,0,0,0,E0,0,0,0,0,0,0,false,E0,1)
 else
 (g44 a c d e f g h i j k l m).bind fun t=>
 Zc5 Z2 b n o p q r a c d e f g h i j k l m 0 0 0 0 0 0 0 0 0 0 0 0 0 0 0 0 0 0 0 0 E0 0 0 0 0 0 0 false 0 0 0 0 0 0 0 0 0 0 0 0 0 0 0 0 0 0 0 0 E0 0 0 0 0 0 0 false t 0
 else
 (g43 b (List.length p:Int) a c d e f g h i j k l m).bind fun s=>
 if s then
 some (0,0,0,0,0,0,0,0,0,0,0,0,0,0,0,0,0,0,0,0,E0,0,0,0,0,0,0,false,E0,1)
 else
 (g44 a c d e f g h i j k l m).bind fun t=>
 Zc5 Z2 b n o p q r a c d e f g h i j k l m 0 0 0 0 0 0 0 0 0 0 0 0 0 0 0 0 0 0 0 0 E0 0 0 0 0 0 0 false 0 0 0 0 0 0 0 0 0 0 0 0 0 0 0 0 0 0 0 0 E0 0 0 0 0 0 0 false t 0):=by kernel_rfl
noncomputable def F27:Fn:=⟨26,[4],[(4,[(0,.c (.slice 1)),(1,.c (.slice 1)),(5,.c (.int .i64))])],[],0,[],[],Tryz.f27,[.c (.slice 1),.c (.slice 1)],[.c (.bool)],[]⟩
theorem Zpc:F27.S.Ok Tryz.prog 27:=F27.ok Tryz.func27 (by kernel_rfl) trivial
noncomputable def g27 (a b:LL):Option (Bool):=F27.S.g [.l a,.l b]
noncomputable def Zg7 (k:Nat) (a b:LL) (c:Int):Option (Bool):=F27.lp [1,0] 0 r0 k [.l a,.l b,.i c]
theorem Ze3 (k:Nat) (b c:LL) (a:Int):Zg7 (k+1) b c a =
 (if (cop .lss a (List.length b:Int)) then
 Zq b a [.int .i64] fun (d:Int)=>
 Zq c a [.int .i64] fun (e:Int)=>
 if (cop .neq d e) then
 some (false)
 else
 Zg7 k b c (iop .add .i64 a 1)
 else
 some (true)):=by kernel_rfl
theorem ZlF (a b:LL):g27 a b =
 (if (cop .neq (List.length a:Int) (List.length b:Int)) then
 some (false)
 else
 Zg7 Z2 a b 0):=by kernel_rfl
noncomputable def F77:Fn:=⟨26,[4],[(4,[(0,.c (.slice 3)),(1,.c (.slice 3)),(5,.c (.int .i64))])],[],0,[],[],Tryz.f77,[.c (.slice 3),.c (.slice 3)],[.c (.bool)],[]⟩
theorem Zo0:F77.S.Ok Tryz.prog 77:=F77.ok Tryz.func77 (by kernel_rfl) trivial
noncomputable def g77 (a b:LL):Option (Bool):=F77.S.g [.l a,.l b]
noncomputable def ZiC (k:Nat) (a b:LL) (c:Int):Option (Bool):=F77.lp [1,0] 0 r0 k [.l a,.l b,.i c]
theorem ZeR (k:Nat) (b c:LL) (a:Int):ZiC (k+1) b c a =
 (if (cop .lss a (List.length b:Int)) then
 Zq b a [.int .i64,.int .i64,.int .i64] fun (d:Int×Int×Int)=>
 Zq c a [.int .i64,.int .i64,.int .i64] fun (e:Int×Int×Int)=>
 if (!((cop .eql d.1 e.1)&&((cop .eql d.2.1 e.2.1)&&((cop .eql d.2.2 e.2.2)&&true)))) then
 some (false)
 else
 ZiC k b c (iop .add .i64 a 1)
 else
 some (true)):=by kernel_rfl
theorem ZmT (a b:LL):g77 a b =
 (if (cop .neq (List.length a:Int) (List.length b:Int)) then
 some (false)
 else
 ZiC Z2 a b 0):=by kernel_rfl
noncomputable def F51:Fn:=⟨24,[4],[],[],0,[],[],Tryz.f51,[.agg hs6,.agg hs6],[.c (.bool)],[(77,F77.S)]⟩
theorem Zpu:F51.S.Ok Tryz.prog 51:=F51.ok Tryz.func51 (by kernel_rfl) ⟨Zo0,trivial⟩
noncomputable def g51 (a c d:Int) (e:LL) (f h j k m n:Int) (o:Bool) (p q r:Int) (s:LL) (t u v w x y:Int) (z:Bool):Option (Bool):=F51.S.g [.i a,.i c,.i d,.l e,.i f,.i h,.i j,.i k,.i m,.i n,.b o,.i p,.i q,.i r,.l s,.i t,.i u,.i v,.i w,.i x,.i y,.b z]
theorem ZlI (a b c:Int) (d:LL) (e f g h i j:Int) (k:Bool) (l m n:Int) (o:LL) (p q r s t u:Int) (v:Bool):g51 a b c d e f g h i j k l m n o p q r s t u v =
 (if ((cop .eql a l)&&((cop .eql b m)&&((cop .eql c n)&&true))) then
 if ((cop .eql e p)&&((cop .eql f q)&&((cop .eql g r)&&((cop .eql h s)&&((cop .eql i t)&&((cop .eql j u)&&((k == v)&&true))))))) then
 (g77 d o).bind fun w=>
 some (w)
 else
 some (false)
 else
 some (false)):=by kernel_rfl
noncomputable def F26:Fn:=⟨38,[4],[],[],0,[],[],Tryz.f26,[.agg hs0,.agg hs0],[.c (.bool)],[(51,F51.S)]⟩
theorem ZoN:F26.S.Ok Tryz.prog 26:=F26.ok Tryz.func26 (by kernel_rfl) ⟨Zpu,trivial⟩
noncomputable def g26 (a c d e f h j k m n o p q r s t u v w x:Int) (y:LL) (z A C D E G:Int) (H:Bool) (J K L M N O P Q R T U V W X Y Z aa ab ac ad:Int) (ae:LL) (af ag ah ai aj ak:Int) (al:Bool):Option (Bool):=F26.S.g [.i a,.i c,.i d,.i e,.i f,.i h,.i j,.i k,.i m,.i n,.i o,.i p,.i q,.i r,.i s,.i t,.i u,.i v,.i w,.i x,.l y,.i z,.i A,.i C,.i D,.i E,.i G,.b H,.i J,.i K,.i L,.i M,.i N,.i O,.i P,.i Q,.i R,.i T,.i U,.i V,.i W,.i X,.i Y,.i Z,.i aa,.i ab,.i ac,.i ad,.l ae,.i af,.i ag,.i ah,.i ai,.i aj,.i ak,.b al]
theorem Zl9 (a b c d e f g h i j k l m n o p q r s t:Int) (u:LL) (v w x y z A:Int) (C:Bool) (D E G H J K L M O P Q R T U V W X Y Z aa:Int) (ab:LL) (ac ad ae af ag ah:Int) (ai:Bool):g26 a b c d e f g h i j k l m n o p q r s t u v w x y z A C D E G H J K L M O P Q R T U V W X Y Z aa ab ac ad ae af ag ah ai =
 (if ((cop .eql a D)&&((cop .eql b E)&&((cop .eql c G)&&true))) then
 if ((cop .eql d H)&&((cop .eql e J)&&((cop .eql f K)&&((cop .eql g L)&&((cop .eql h M)&&((cop .eql i O)&&((cop .eql j P)&&((cop .eql k Q)&&((cop .eql l R)&&((cop .eql m T)&&((cop .eql n U)&&((cop .eql o V)&&true)))))))))))) then
 if (cop .eql p W) then
 if (cop .eql q X) then
 (g51 r s t u v w x y z A C Y Z aa ab ac ad ae af ag ah ai).bind fun aj=>
 some (aj)
 else
 some (false)
 else
 some (false)
 else
 some (false)
 else
 some (false)):=by kernel_rfl
end Go.Proofs.YtmjkdbpffdampaaGreat
