/- Functions of the program, as what they compute. -/
import Derived.Test.YtmjkdbpffdampaaM5
namespace Go.Proofs.Ytmjkdbpffdampaa
open Go Go.AM
set_option linter.unusedVariables false
set_option maxRecDepth 100000
noncomputable def F40:Fn:=⟨26,[4],[(4,[(0,.c (.slice 3)),(1,.c (.slice 3)),(5,.c (.int .i64))])],[],0,[],[],Try.f40,[.c (.slice 3),.c (.slice 3)],[.c (.bool)],[]⟩
theorem Zpo:F40.S.Ok Try.prog 40:=F40.ok Try.func40 (by kernel_rfl) trivial
noncomputable def g40 (a b:LL):Option (Bool):=F40.S.g [.l a,.l b]
noncomputable def Zit (k:Nat) (a b:LL) (c:Int):Option (Bool):=F40.lp [1,0] 0 r0 k [.l a,.l b,.i c]
theorem Zfw (k:Nat) (b c:LL) (a:Int):Zit (k+1) b c a =
 (if (cop .lss a (List.length b:Int)) then
 Zq b a [.int .i64,.int .i64,.int .i64] fun (d:Int×Int×Int)=>
 Zq c a [.int .i64,.int .i64,.int .i64] fun (e:Int×Int×Int)=>
 if (!((cop .eql d.1 e.1)&&((cop .eql d.2.1 e.2.1)&&((cop .eql d.2.2 e.2.2)&&true)))) then
 some (false)
 else
 Zit k b c (iop .add .i64 a 1)
 else
 some (true)):=by kernel_rfl
theorem Zmk (a b:LL):g40 a b =
 (if (cop .neq (List.length a:Int) (List.length b:Int)) then
 some (false)
 else
 Zit Z6 a b 0):=by kernel_rfl
noncomputable def F15:Fn:=⟨24,[4],[],[],0,[],[],Try.f15,[.agg hs6,.agg hs6],[.c (.bool)],[(40,F40.S)]⟩
theorem Zoe:F15.S.Ok Try.prog 15:=F15.ok Try.func15 (by kernel_rfl) ⟨Zpo,trivial⟩
noncomputable def g15 (a c d:Int) (e:LL) (f h j k m n:Int) (o:Bool) (p q r:Int) (s:LL) (t u v w x y:Int) (z:Bool):Option (Bool):=F15.S.g [.i a,.i c,.i d,.l e,.i f,.i h,.i j,.i k,.i m,.i n,.b o,.i p,.i q,.i r,.l s,.i t,.i u,.i v,.i w,.i x,.i y,.b z]
theorem ZjM (a b c:Int) (d:LL) (e f g h i j:Int) (k:Bool) (l m n:Int) (o:LL) (p q r s t u:Int) (v:Bool):g15 a b c d e f g h i j k l m n o p q r s t u v =
 (if ((cop .eql a l)&&((cop .eql b m)&&((cop .eql c n)&&true))) then
 if ((cop .eql e p)&&((cop .eql f q)&&((cop .eql g r)&&((cop .eql h s)&&((cop .eql i t)&&((cop .eql j u)&&((k == v)&&true))))))) then
 (g40 d o).bind fun w=>
 some (w)
 else
 some (false)
 else
 some (false)):=by kernel_rfl
noncomputable def F13:Fn:=⟨38,[4],[],[],0,[],[],Try.f13,[.agg hs0,.agg hs0],[.c (.bool)],[(15,F15.S)]⟩
theorem Zo9:F13.S.Ok Try.prog 13:=F13.ok Try.func13 (by kernel_rfl) ⟨Zoe,trivial⟩
noncomputable def g13 (a c d e f h j k m n o p q r s t u v w x:Int) (y:LL) (z A C D E G:Int) (H:Bool) (J K L M N O P Q R T U V W X Y Z aa ab ac ad:Int) (ae:LL) (af ag ah ai aj ak:Int) (al:Bool):Option (Bool):=F13.S.g [.i a,.i c,.i d,.i e,.i f,.i h,.i j,.i k,.i m,.i n,.i o,.i p,.i q,.i r,.i s,.i t,.i u,.i v,.i w,.i x,.l y,.i z,.i A,.i C,.i D,.i E,.i G,.b H,.i J,.i K,.i L,.i M,.i N,.i O,.i P,.i Q,.i R,.i T,.i U,.i V,.i W,.i X,.i Y,.i Z,.i aa,.i ab,.i ac,.i ad,.l ae,.i af,.i ag,.i ah,.i ai,.i aj,.i ak,.b al]
theorem Zmd (a b c d e f g h i j k l m n o p q r s t:Int) (u:LL) (v w x y z A:Int) (C:Bool) (D E G H J K L M N O P Q R T U V W X Y Z:Int) (aa:LL) (ab ac ad ae af ag:Int) (ah:Bool):g13 a b c d e f g h i j k l m n o p q r s t u v w x y z A C D E G H J K L M N O P Q R T U V W X Y Z aa ab ac ad ae af ag ah =
 (if ((cop .eql a D)&&((cop .eql b E)&&((cop .eql c G)&&true))) then
 if ((cop .eql d H)&&((cop .eql e J)&&((cop .eql f K)&&((cop .eql g L)&&((cop .eql h M)&&((cop .eql i N)&&((cop .eql j O)&&((cop .eql k P)&&((cop .eql l Q)&&((cop .eql m R)&&((cop .eql n T)&&((cop .eql o U)&&true)))))))))))) then
 if (cop .eql p V) then
 if (cop .eql q W) then
 (g15 r s t u v w x y z A C X Y Z aa ab ac ad ae af ag ah).bind fun ai=>
 some (ai)
 else
 some (false)
 else
 some (false)
 else
 some (false)
 else
 some (false)):=by kernel_rfl
noncomputable def F63:Fn:=⟨31,[2],[],[],0,[],[],Try.f63,[.agg [.int .i64,.int .i64,.int .i64]],[.c (.bool)],[]⟩
theorem Zog:F63.S.Ok Try.prog 63:=F63.ok Try.func63 (by kernel_rfl) trivial
noncomputable def g63 (a b c:Int):Option (Bool):=F63.S.g [.i a,.i b,.i c]
theorem Zmm (a b c:Int):g63 a b c =
 (if (cop .geq a 0) then
 if (cop .lss a 32) then
 if (cop .geq b 1) then
 if (cop .leq b 1073741824) then
 if (cop .geq c 0) then
 some ((cop .lss c 8))
 else
 some (false)
 else
 some (false)
 else
 some (false)
 else
 some (false)
 else
 some (false)):=by kernel_rfl
noncomputable def F41:Fn:=⟨10,[2],[],[],0,[],[],Try.f41,[.agg [.int .i64,.int .i64,.int .i64]],[.c (.bool)],[(63,F63.S)]⟩
theorem ZpG:F41.S.Ok Try.prog 41:=F41.ok Try.func41 (by kernel_rfl) ⟨Zog,trivial⟩
noncomputable def g41 (a b c:Int):Option (Bool):=F41.S.g [.i a,.i b,.i c]
theorem Znp (b c a:Int):g41 b c a =
 ((g63 b c a).bind fun d=>
 if d then
 some ((cop .eql a 0))
 else
 some (false)):=by kernel_rfl
noncomputable def F42:Fn:=⟨9,[2],[],[],0,[],[],Try.f42,[.c (.int .i64)],[.c (.bool)],[]⟩
theorem Zpw:F42.S.Ok Try.prog 42:=F42.ok Try.func42 (by kernel_rfl) trivial
noncomputable def g42 (a:Int):Option (Bool):=F42.S.g [.i a]
theorem Zmh (a:Int):g42 a =
 (if (cop .geq a 0) then
 some ((cop .lss a 16))
 else
 some (false)):=by kernel_rfl
noncomputable def F85:Fn:=⟨12,[2],[],[],0,[],[],Try.f85,[.c (.int .i64)],[.c (.int .i64)],[]⟩
theorem Zo6:F85.S.Ok Try.prog 85:=F85.ok Try.func85 (by kernel_rfl) trivial
noncomputable def g85 (a:Int):Option (Int):=F85.S.g [.i a]
theorem ZmJ (a:Int):g85 a =
 (if (cop .eql a 3) then
 some (12)
 else
 if (cop .eql a 4) then
 some (6)
 else
 if (cop .eql a 5) then
 some (10)
 else
 if (cop .eql a 6) then
 some (16)
 else
 some (0)):=by kernel_rfl
noncomputable def F73:Fn:=⟨35,[4],[],[],0,[],[],Try.f73,[.c (.int .i64),.c (.int .i64)],[.c (.bool)],[(85,F85.S)]⟩
theorem ZoG:F73.S.Ok Try.prog 73:=F73.ok Try.func73 (by kernel_rfl) ⟨Zo6,trivial⟩
noncomputable def g73 (a b:Int):Option (Bool):=F73.S.g [.i a,.i b]
theorem ZlK (a b:Int):g73 a b =
 (if (cop .eql a 1) then
 if (cop .geq b 6) then
 some ((cop .leq b 40))
 else
 some (false)
 else
 if (cop .eql a 2) then
 if (cop .geq b 12) then
 some ((cop .leq b 40))
 else
 some (false)
 else
 if (cop .geq a 3) then
 if (cop .leq a 6) then
 (g85 a).bind fun c=>
 some ((cop .eql b c))
 else
 some (false)
 else
 some (false)):=by kernel_rfl
noncomputable def F17:Fn:=⟨8,[2],[],[],0,[],[],Try.f17,[.agg hs11],[.agg [.int .i64,.int .i64]],[]⟩
theorem Zob:F17.S.Ok Try.prog 17:=F17.ok Try.func17 (by kernel_rfl) trivial
noncomputable def g17 (a c d e f h:Int) (j:Bool):Option (Int×Int):=F17.S.g [.i a,.i c,.i d,.i e,.i f,.i h,.b j]
theorem ZmT (c a b d e f:Int) (g:Bool):g17 c a b d e f g =
 (some (a,b)):=by kernel_rfl
noncomputable def F66:Fn:=⟨38,[2],[],[],0,[],[],Try.f66,[.agg [.int .i64,.int .i64]],[.c (.bool)],[]⟩
theorem ZnC:F66.S.Ok Try.prog 66:=F66.ok Try.func66 (by kernel_rfl) trivial
noncomputable def g66 (a b:Int):Option (Bool):=F66.S.g [.i a,.i b]
theorem Zl7 (b a:Int):g66 b a =
 (if (cop .lss a 6) then
 some (false)
 else
 if (cop .gtr a 40) then
 some (false)
 else
 if (cop .lss b 0) then
 some (false)
 else
 if (cop .geq b 1099511627776) then
 some (false)
 else
 Zj ((0:Int)≤(IntKind.wrap .u64 a))<|
 Zj (((iop .shl .i64 1 (IntKind.wrap .u64 a)):Int)≠0)<|
 if (cop .eql (iop .rem .i64 b (iop .shl .i64 1 (IntKind.wrap .u64 a))) 0) then
 some ((cop .leq (iop .add .i64 b (iop .shl .i64 1 (IntKind.wrap .u64 a))) 1099511627776))
 else
 some (false)):=by kernel_rfl
noncomputable def F74:Fn:=⟨23,[4],[],[],0,[],[],Try.f74,[.c (.int .i64),.c (.int .i64)],[.c (.bool)],[]⟩
theorem ZoA:F74.S.Ok Try.prog 74:=F74.ok Try.func74 (by kernel_rfl) trivial
noncomputable def g74 (a b:Int):Option (Bool):=F74.S.g [.i a,.i b]
theorem Zm3 (b a:Int):g74 b a =
 (if (cop .geq a 0) then
 if (cop .eql b 32) then
 if (cop .leq a 1) then
 some (true)
 else
 if (cop .eql b 39) then
 some ((cop .leq a 2))
 else
 some (false)
 else
 if (cop .eql b 39) then
 some ((cop .leq a 2))
 else
 some (false)
 else
 some (false)):=by kernel_rfl
noncomputable def F64:Fn:=⟨64,[2],[],[],0,[],[],Try.f64,[.agg hs11],[.c (.bool)],[(73,F73.S),(17,F17.S),(66,F66.S),(74,F74.S)]⟩
theorem ZnX:F64.S.Ok Try.prog 64:=F64.ok Try.func64 (by kernel_rfl) ⟨ZoG,⟨Zob,⟨ZnC,⟨ZoA,trivial⟩⟩⟩⟩
noncomputable def g64 (a c d e f h:Int) (j:Bool):Option (Bool):=F64.S.g [.i a,.i c,.i d,.i e,.i f,.i h,.b j]
theorem Zmq (a g f e c d:Int) (b:Bool):g64 a g f e c d b =
 ((g73 a f).bind fun i=>
 if (!i) then
 some (false)
 else
 (g17 a g f e c d b).bind fun h=>
 (g66 h.1 h.2).bind fun j=>
 if (!j) then
 some (false)
 else
 if (cop .lss e 0) then
 some (false)
 else
 if (cop .gtr e 7) then
 some (false)
 else
 if (cop .eql a 3) then
 (g74 c d).bind fun k=>
 if (!k) then
 some (false)
 else
 if (cop .neq a 3) then
 if (cop .neq c 0) then
 some (false)
 else
 if (cop .neq d 0) then
 some (false)
 else
 if (!b) then
 some (true)
 else
 if (cop .eql a 1) then
 some (true)
 else
 some ((cop .eql a 2))
 else
 if (!b) then
 some (true)
 else
 if (cop .eql a 1) then
 some (true)
 else
 some ((cop .eql a 2))
 else
 if (cop .neq a 3) then
 if (cop .neq c 0) then
 some (false)
 else
 if (cop .neq d 0) then
 some (false)
 else
 if (!b) then
 some (true)
 else
 if (cop .eql a 1) then
 some (true)
 else
 some ((cop .eql a 2))
 else
 if (!b) then
 some (true)
 else
 if (cop .eql a 1) then
 some (true)
 else
 some ((cop .eql a 2))):=by kernel_rfl
noncomputable def F65:Fn:=⟨18,[4],[(2,[(0,.c (.slice 3)),(3,.box [.int .i64,.int .i64,.int .i64]),(5,.c (.int .i64))])],[],0,[],[],Try.f65,[.c (.slice 3),.agg [.int .i64,.int .i64,.int .i64]],[.c (.bool)],[]⟩
theorem ZoE:F65.S.Ok Try.prog 65:=F65.ok Try.func65 (by kernel_rfl) trivial
noncomputable def g65 (a:LL) (b c d:Int):Option (Bool):=F65.S.g [.l a,.i b,.i c,.i d]
noncomputable def ZiF (k:Nat) (a:LL) (b c d e:Int):Option (Bool):=F65.lp [0] 0 r0 k [.l a,.i b,.i c,.i d,.i e]
theorem Ze9 (k:Nat) (a:LL) (c d e b:Int):ZiF (k+1) a c d e b =
 (if (cop .lss b (List.length a:Int)) then
 Zq a b [.int .i64,.int .i64,.int .i64] fun (f:Int×Int×Int)=>
 if ((cop .eql f.1 c)&&((cop .eql f.2.1 d)&&((cop .eql f.2.2 e)&&true))) then
 some (true)
 else
 ZiF k a c d e (iop .add .i64 b 1)
 else
 some (false)):=by kernel_rfl
theorem ZlC (a:LL) (b c d:Int):g65 a b c d =
 (ZiF Z6 a b c d 0):=by kernel_rfl
noncomputable def F43:Fn:=⟨53,[2],[(4,[(1,.box hs6),(3,.c (.int .i64))])],[],0,[],[],Try.f43,[.agg hs6],[.c (.bool)],[(63,F63.S),(64,F64.S),(65,F65.S)]⟩
theorem ZoK:F43.S.Ok Try.prog 43:=F43.ok Try.func43 (by kernel_rfl) ⟨Zog,⟨ZnX,⟨ZoE,trivial⟩⟩⟩
noncomputable def g43 (a c d:Int) (e:LL) (f h j k m n:Int) (o:Bool):Option (Bool):=F43.S.g [.i a,.i c,.i d,.l e,.i f,.i h,.i j,.i k,.i m,.i n,.b o]
noncomputable def Zjl (k:Nat) (a c d:Int) (e:LL) (f g h j m n:Int) (o:Bool) (p:Int):Option (Bool):=F43.lp [0,1,0,1,1,0,1,0] 0 r0 k [.i a,.i c,.i d,.l e,.i f,.i g,.i h,.i j,.i m,.i n,.b o,.i p]
theorem ZeQ (k:Nat) (e f g:Int) (b:LL) (h i j l m n:Int) (o:Bool) (a:Int):Zjl (k+1) e f g b h i j l m n o a =
 (if (cop .lss a (List.length b:Int)) then
 Zq b a [.int .i64,.int .i64,.int .i64] fun (c:Int×Int×Int)=>
 (g63 c.1 c.2.1 c.2.2).bind fun p=>
 if (!p) then
 some (false)
 else
 Zj ((0:Int)≤a)<|
 Zj ((a:Int)≤(List.length b:Int))<|
 Zq b a [.int .i64,.int .i64,.int .i64] fun (d:Int×Int×Int)=>
 (g65 (List.take (Int.toNat a) b) d.1 d.2.1 d.2.2).bind fun q=>
 if q then
 some (false)
 else
 Zjl k e f g b h i j l m n o (iop .add .i64 a 1)
 else
 some (true)):=by kernel_rfl
theorem Zms (a b c:Int) (d:LL) (e f g h i j:Int) (k:Bool):g43 a b c d e f g h i j k =
 ((g63 a b c).bind fun l=>
 if (!l) then
 some (false)
 else
 (g64 e f g h i j k).bind fun m=>
 if (!m) then
 some (false)
 else
 if (cop .gtr (List.length d:Int) 8) then
 some (false)
 else
 (g65 d a b c).bind fun n=>
 if n then
 some (false)
 else
 Zjl Z6 a b c d e f g h i j k 0):=by kernel_rfl
noncomputable def F18:Fn:=⟨46,[2],[],[],0,[],[],Try.f18,[.agg hs0],[.c (.bool)],[(41,F41.S),(42,F42.S),(15,F15.S),(43,F43.S)]⟩
theorem Zps:F18.S.Ok Try.prog 18:=F18.ok Try.func18 (by kernel_rfl) ⟨ZpG,⟨Zpw,⟨Zoe,⟨ZoK,trivial⟩⟩⟩⟩
noncomputable def g18 (a c d e f h j k m n o p q r s t u v w x:Int) (y:LL) (z A C D E G:Int) (H:Bool):Option (Bool):=F18.S.g [.i a,.i c,.i d,.i e,.i f,.i h,.i j,.i k,.i m,.i n,.i o,.i p,.i q,.i r,.i s,.i t,.i u,.i v,.i w,.i x,.l y,.i z,.i A,.i C,.i D,.i E,.i G,.b H]
theorem ZmW (o p q b s t u v w x y z A C D r n c d e:Int) (f:LL) (g h i j k l:Int) (m:Bool):g18 o p q b s t u v w x y z A C D r n c d e f g h i j k l m =
 ((g41 o p q).bind fun E=>
 if (!E) then
 some (false)
 else
 if (cop .lss b 1) then
 some (false)
 else
 if (cop .gtr b 6) then
 some (false)
 else
 (g42 r).bind fun G=>
 if (!G) then
 some (false)
 else
 if (cop .neq n 32) then
 if (cop .neq n 39) then
 some (false)
 else
 if (cop .eql b 1) then
 (g15 c d e f g h i j k l m 0 0 0 E0 0 0 0 0 0 0 false).bind fun a=>
 some (a)
 else
 (g43 c d e f g h i j k l m).bind fun a=>
 some (a)
 else
 if (cop .eql b 1) then
 (g15 c d e f g h i j k l m 0 0 0 E0 0 0 0 0 0 0 false).bind fun a=>
 some (a)
 else
 (g43 c d e f g h i j k l m).bind fun a=>
 some (a)):=by kernel_rfl
noncomputable def F45:Fn:=⟨8,[2],[],[],0,[],[],Try.f45,[.agg [.int .i64,.int .i64,.bool]],[.agg [.int .i64,.int .i64]],[]⟩
theorem ZoY:F45.S.Ok Try.prog 45:=F45.ok Try.func45 (by kernel_rfl) trivial
noncomputable def g45 (a c:Int) (d:Bool):Option (Int×Int):=F45.S.g [.i a,.i c,.b d]
theorem Zls (a b:Int) (c:Bool):g45 a b c =
 (some (a,b)):=by kernel_rfl
noncomputable def F67:Fn:=⟨13,[2],[],[],0,[],[],Try.f67,[.agg [.int .i64,.int .i64]],[.c (.int .i64)],[(66,F66.S)]⟩
theorem ZoN:F67.S.Ok Try.prog 67:=F67.ok Try.func67 (by kernel_rfl) ⟨ZnC,trivial⟩
noncomputable def g67 (a b:Int):Option (Int):=F67.S.g [.i a,.i b]
theorem Zne (b a:Int):g67 b a =
 ((g66 b a).bind fun c=>
 if (!c) then
 some (0)
 else
 Zj ((0:Int)≤(IntKind.wrap .u64 a))<|
 some ((iop .add .i64 b (iop .shl .i64 1 (IntKind.wrap .u64 a))))):=by kernel_rfl
noncomputable def F44:Fn:=⟨25,[4],[],[],0,[],[],Try.f44,[.agg [.int .i64,.int .i64],.agg [.int .i64,.int .i64]],[.c (.bool)],[(66,F66.S),(67,F67.S)]⟩
theorem ZoI:F44.S.Ok Try.prog 44:=F44.ok Try.func44 (by kernel_rfl) ⟨ZnC,⟨ZoN,trivial⟩⟩
noncomputable def g44 (a b c d:Int):Option (Bool):=F44.S.g [.i a,.i b,.i c,.i d]
theorem Zl3 (a c b d:Int):g44 a c b d =
 ((g66 a c).bind fun e=>
 if e then
 (g66 b d).bind fun f=>
 if f then
 if (cop .leq a b) then
 (g67 b d).bind fun g=>
 (g67 a c).bind fun h=>
 some ((cop .leq g h))
 else
 some (false)
 else
 some (false)
 else
 some (false)):=by kernel_rfl
noncomputable def F19:Fn:=⟨20,[4],[(2,[(0,.c (.slice 3)),(3,.box [.int .i64,.int .i64]),(5,.c (.int .i64))])],[],0,[],[],Try.f19,[.c (.slice 3),.agg [.int .i64,.int .i64]],[.c (.int .i64)],[(45,F45.S),(44,F44.S)]⟩
theorem ZoZ:F19.S.Ok Try.prog 19:=F19.ok Try.func19 (by kernel_rfl) ⟨ZoY,⟨ZoI,trivial⟩⟩
noncomputable def g19 (a:LL) (b c:Int):Option (Int):=F19.S.g [.l a,.i b,.i c]
noncomputable def Zgu (k:Nat) (a:LL) (b c d:Int):Option (Int):=F19.lp [0] 0 r0 k [.l a,.i b,.i c,.i d]
theorem Zfc (k:Nat) (b:LL) (c d a:Int):Zgu (k+1) b c d a =
 (if (cop .lss a (List.length b:Int)) then
 Zq b a [.int .i64,.int .i64,.bool] fun (e:Int×Int×Bool)=>
 (g45 e.1 e.2.1 e.2.2).bind fun f=>
 (g44 f.1 f.2 c d).bind fun g=>
 if g then
 some (a)
 else
 Zgu k b c d (iop .add .i64 a 1)
 else
 some ((-1))):=by kernel_rfl
theorem Zno (a:LL) (b c:Int):g19 a b c =
 (Zgu Z6 a b c 0):=by kernel_rfl
noncomputable def F16:Fn:=⟨18,[4],[(2,[(0,.c (.slice 1)),(1,.c (.int .i64)),(5,.c (.int .i64))])],[],0,[],[],Try.f16,[.c (.slice 1),.c (.int .i64)],[.c (.bool)],[]⟩
theorem Zpc:F16.S.Ok Try.prog 16:=F16.ok Try.func16 (by kernel_rfl) trivial
noncomputable def g16 (a:LL) (b:Int):Option (Bool):=F16.S.g [.l a,.i b]
noncomputable def ZdX (k:Nat) (a:LL) (b c:Int):Option (Bool):=F16.lp [0] 0 r0 k [.l a,.i b,.i c]
theorem ZeY (k:Nat) (a:LL) (c b:Int):ZdX (k+1) a c b =
 (if (cop .lss b (List.length a:Int)) then
 Zq a b [.int .i64] fun (d:Int)=>
 if (cop .eql d c) then
 some (true)
 else
 ZdX k a c (iop .add .i64 b 1)
 else
 some (false)):=by kernel_rfl
theorem ZlA (a:LL) (b:Int):g16 a b =
 (ZdX Z6 a b 0):=by kernel_rfl
noncomputable def F14:Fn:=⟨12,[2],[],[],0,[],[],Try.f14,[.agg hs3],[.c (.bool)],[]⟩
theorem Zpi:F14.S.Ok Try.prog 14:=F14.ok Try.func14 (by kernel_rfl) trivial
noncomputable def g14 (a c d:Int) (e:LL) (f h j k m n:Int) (o:Bool) (p q r s:Int):Option (Bool):=F14.S.g [.i a,.i c,.i d,.l e,.i f,.i h,.i j,.i k,.i m,.i n,.b o,.i p,.i q,.i r,.i s]
theorem ZlF (e f g:Int) (h:LL) (i j k l m n:Int) (o:Bool) (a b c d:Int):g14 e f g h i j k l m n o a b c d =
 (if (cop .neq a 0) then
 some (true)
 else
 some ((!((cop .eql b 0)&&((cop .eql c 0)&&((cop .eql d 0)&&true)))))):=by kernel_rfl
end Go.Proofs.Ytmjkdbpffdampaa
