/- Functions of the program, as what they compute. -/
import Derived.Test.YtapbmpfhogkkaaaGreatFMa
namespace Go.Proofs.YtapbmpfhogkkaaaGreat
open Go Go.AM
set_option linter.unusedVariables false
set_option maxRecDepth 100000
noncomputable def F6:Fn:=⟨16,[4],[],[],0,[],[],Tryz.f6,[.c (.int .i64),.c (.int .i64)],[.c (.int .i64)],[]⟩
theorem ok6:F6.S.Ok Tryz.prog 6:=F6.ok Tryz.func6 (by kernel_rfl) trivial
noncomputable def g6 (a b:Int):Option (Int):=F6.S.g [.i a,.i b]
theorem Zpo (b a:Int):g6 b a =
 (if (cop .lss a 1) then
 some (0)
 else
 Zi ((a:Int)≠0)<|
 if (cop .lss (iop .rem .i64 b a) 0) then
 some ((iop .add .i64 (iop .rem .i64 b a) a))
 else
 some ((iop .rem .i64 b a))):=by kernel_rfl
noncomputable def F32:Fn:=⟨17,[4],[],[],0,[],[],Tryz.f32,[.c (.slice 1),.c (.int .i64)],[.c (.int .i64)],[]⟩
theorem ZqE:F32.S.Ok Tryz.prog 32:=F32.ok Tryz.func32 (by kernel_rfl) trivial
noncomputable def g32 (a:LL) (b:Int):Option (Int):=F32.S.g [.l a,.i b]
theorem ZmP (b:LL) (a:Int):g32 b a =
 (if (cop .lss a 0) then
 some (0)
 else
 if (cop .geq a (List.length b:Int)) then
 some (0)
 else
 Zj b a [.int .i64] fun (c:Int)=>
 some (c)):=by kernel_rfl
noncomputable def F13:Fn:=⟨94,[2],[(5,[(0,.c (.slice 1)),(2,.box [.slice 1,.int .i64,.int .i64,.slice 3,.slice 1]),(3,.c (.int .i64)),(4,.box [.slice 1,.int .i64,.int .i64,.slice 3,.slice 1]),(5,.c (.int .i64)),(6,.c (.int .i64))]),(10,[(0,.c (.slice 1)),(2,.box [.slice 1,.int .i64,.int .i64,.slice 3,.slice 1]),(4,.box [.slice 1,.int .i64,.int .i64,.slice 3,.slice 1]),(5,.c (.int .i64)),(8,.c (.int .i64))])],[],0,[],[],Tryz.f13,[.c (.slice 1)],[.agg [.slice 1,.int .i64,.int .i64,.slice 3,.slice 1]],[(32,F32.S),(6,F6.S)]⟩
theorem Zqu:F13.S.Ok Tryz.prog 13:=F13.ok Tryz.func13 (by kernel_rfl) ⟨ZqE,⟨ok6,trivial⟩⟩
noncomputable def g13 (a:LL):Option (LL×Int×Int×LL×LL):=F13.S.g [.l a]
noncomputable def Zh2 (k:Nat) (a b:LL) (c d:Int) (e f g:LL) (h j:Int) (m n:LL) (o p:Int):Option (LL×Int×Int×LL×LL):=F13.lp [9,1,0] 0 r0 k [.l a,.l b,.i c,.i d,.l e,.l f,.l g,.i h,.i j,.l m,.l n,.i o,.i p]
theorem ZiP (k:Nat) (b i:LL) (j l:Int) (m n f:LL) (e g:Int) (c d:LL) (h a:Int):Zh2 (k+1) b i j l m n f e g c d h a =
 (if (cop .lss a h) then
 Zi ((0:Int)≤18)<|
 (g32 b (iop .add .i64 8 a)).bind fun r=>
 (g6 r 3).bind fun o=>
 (g32 b (iop .add .i64 11 a)).bind fun s=>
 (g6 s 5).bind fun p=>
 Zi (Z5 E0 c 24)<|
 Zi (Z5 c (E0++[[AV.val (.int .i64 (iop .shl .i64 (iop .add .i64 a 1) 18)),AV.val (.int .i64 (iop .add .i64 15 o)),AV.val (.bool (cop .eql p 4))]]) 24)<|
 Zi (Z5 E0 d 8)<|
 (g32 b (iop .add .i64 14 a)).bind fun t=>
 (g6 t e).bind fun q=>
 Zi (Z5 d (E0++[[AV.val (.int .i64 q)]]) 8)<|
 Zh2 k b i j l m n f e g (c++(E0++[[AV.val (.int .i64 (iop .shl .i64 (iop .add .i64 a 1) 18)),AV.val (.int .i64 (iop .add .i64 15 o)),AV.val (.bool (cop .eql p 4))]])) (d++(E0++[[AV.val (.int .i64 q)]])) h (iop .add .i64 a 1)
 else
 some (f,e,g,c,d)):=by kernel_rfl
noncomputable def Zjh (k:Nat) (a b:LL) (c d:Int) (e f:LL) (g:Int) (h:LL) (j m:Int) (n o:LL) (p q:Int):Option (LL×Int×Int×LL×LL):=F13.lp [9] 0 r0 k [.l a,.l b,.i c,.i d,.l e,.l f,.i g,.l h,.i j,.i m,.l n,.l o,.i p,.i q]
theorem Zjb (k:Nat) (b d:LL) (e f:Int) (g h:LL) (i:Int) (a:LL) (j l:Int) (m n:LL) (o c:Int):Zjh (k+1) b d e f g h i a j l m n o c =
 (if (cop .lss c i) then
 Zi (Z5 E0 a 8)<|
 (g32 b (iop .add .i64 4 c)).bind fun q=>
 (g6 q 2).bind fun r=>
 Zj ((E0++[[AV.val (.int .i64 32)]])++[[AV.val (.int .i64 39)]]) r [.int .i64] fun (p:Int)=>
 Zi (Z5 a (E0++[[AV.val (.int .i64 p)]]) 8)<|
 Zjh k b d e f g h i (a++(E0++[[AV.val (.int .i64 p)]])) j l m n o (iop .add .i64 c 1)
 else
 Zh2 ZZ b d e f g h a j l m n o 0):=by kernel_rfl
theorem ZnN (a:LL):g13 a =
 ((g32 a 0).bind fun c=>
 (g6 c 4).bind fun b=>
 (g32 a 1).bind fun d=>
 (g6 d (iop .add .i64 1 b)).bind fun e=>
 (g32 a 2).bind fun f=>
 (g6 f 7).bind fun g=>
 (g32 a 3).bind fun h=>
 (g6 h 3).bind fun i=>
 Zjh ZZ a E0 0 0 E0 E0 (iop .add .i64 1 b) E0 (iop .add .i64 1 e) (iop .add .i64 4 g) E0 E0 (iop .add .i64 1 i) 0):=by kernel_rfl
noncomputable def F4:Fn:=⟨11,[2],[],[],0,[],[],Tryz.f4,[.c (.slice 1)],[.agg [.slice 1,.int .i64,.int .i64,.slice 3,.slice 1]],[(13,F13.S)]⟩
theorem ok4:F4.S.Ok Tryz.prog 4:=F4.ok Tryz.func4 (by kernel_rfl) ⟨Zqu,trivial⟩
noncomputable def g4 (a:LL):Option (LL×Int×Int×LL×LL):=F4.S.g [.l a]
theorem ZpD (b:LL):g4 b =
 ((g13 b).bind fun a=>
 some (a.1,(List.length a.1:Int),a.2.2.1,a.2.2.2.1,a.2.2.2.2)):=by kernel_rfl
noncomputable def F21:Fn:=⟨32,[4],[],[],0,[],[],Tryz.f21,[.c (.int .i64),.c (.int .i64)],[.c (.int .i64)],[(6,F6.S)]⟩
theorem ZqY:F21.S.Ok Tryz.prog 21:=F21.ok Tryz.func21 (by kernel_rfl) ⟨ok6,trivial⟩
noncomputable def g21 (a b:Int):Option (Int):=F21.S.g [.i a,.i b]
theorem Zoj (c a:Int):g21 c a =
 ((g6 a 3).bind fun d=>
 Zi ((0:Int)≤12)<|
 Zi ((3:Int)≠0)<|
 (g6 (iop .quo .i64 a 3) 4096).bind fun e=>
 if (cop .eql c 32) then
 Zi ((9:Int)≠0)<|
 (g6 (iop .quo .i64 a 9) 3).bind fun b=>
 Zi ((0:Int)≤22)<|
 some ((iop .add .i64 (iop .add .i64 (iop .shl .i64 d 12) e) (iop .shl .i64 b 22)))
 else
 Zi ((9:Int)≠0)<|
 (g6 (iop .quo .i64 a 9) 3).bind fun b=>
 Zi ((0:Int)≤21)<|
 Zi ((27:Int)≠0)<|
 (g6 (iop .quo .i64 a 27) 3).bind fun f=>
 Zi ((0:Int)≤30)<|
 some ((iop .add .i64 (iop .add .i64 (iop .add .i64 (iop .shl .i64 d 12) e) (iop .shl .i64 b 21)) (iop .shl .i64 f 30)))):=by kernel_rfl
noncomputable def F8:Fn:=⟨128,[6],[],[],0,[],[],Tryz.f8,[.agg [.slice 1,.int .i64,.int .i64,.slice 3,.slice 1],.c (.int .i64),.agg hs10],[.agg hs4],[(6,F6.S),(21,F21.S)]⟩
theorem ok8:F8.S.Ok Tryz.prog 8:=F8.ok Tryz.func8 (by kernel_rfl) ⟨ok6,⟨ZqY,trivial⟩⟩
noncomputable def g8 (a:LL) (b c:Int) (d e:LL) (f h j k m n o p q r:Int):Option (Qt15):=F8.S.g [.l a,.i b,.i c,.l d,.l e,.i f,.i h,.i j,.i k,.i m,.i n,.i o,.i p,.i q,.i r]
theorem Zo7 (j:LL) (x l:Int) (m y:LL) (r s t u v n o k e w:Int):g8 j x l m y r s t u v n o k e w =
 ((g6 s 10).bind fun a=>
 (g6 t l).bind fun c=>
 (g6 u l).bind fun d=>
 (g6 n 8).bind fun f=>
 if (cop .eql (iop .add .i64 1 a) 1) then
 (g6 o (List.length m:Int)).bind fun b=>
 Zj m b [.int .i64,.int .i64,.bool] fun (g:Int×Int×Bool)=>
 (g6 k 3).bind fun h=>
 (g6 e 4).bind fun p=>
 Zi ((0:Int)≤(IntKind.wrap .u64 (iop .add .i64 13 h)))<|
 some ((iop .add .i64 1 a),c,d,0,f,0,(iop .add .i64 13 h),0,(iop .add .i64 g.1 (iop .shl .i64 p (IntKind.wrap .u64 (iop .add .i64 13 h)))),0,0,0)
 else
 if (cop .eql (iop .add .i64 1 a) 2) then
 (g6 o 6).bind fun b=>
 (g6 k 3).bind fun g=>
 Zj ((((((E0++[[AV.val (.int .i64 (iop .add .i64 12 g))]])++[[AV.val (.int .i64 12)]])++[[AV.val (.int .i64 12)]])++[[AV.val (.int .i64 6)]])++[[AV.val (.int .i64 10)]])++[[AV.val (.int .i64 16)]]) (iop .sub .i64 (iop .add .i64 1 b) 1) [.int .i64] fun (i:Int)=>
 (g6 k 3).bind fun q=>
 (g6 w 3).bind fun h=>
 (g6 e 6).bind fun p=>
 Zi ((0:Int)≤(IntKind.wrap .u64 i))<|
 some ((iop .add .i64 1 a),c,d,0,f,(iop .add .i64 1 b),i,q,(iop .shl .i64 p (IntKind.wrap .u64 i)),(iop .add .i64 1 h),0,0)
 else
 if (cop .eql (iop .add .i64 1 a) 4) then
 (g6 v (List.length j:Int)).bind fun b=>
 some ((iop .add .i64 1 a),c,d,b,f,0,0,0,0,0,0,0)
 else
 if (cop .eql (iop .add .i64 1 a) 8) then
 (g6 e 3).bind fun b=>
 some ((iop .add .i64 1 a),c,d,0,f,0,0,0,0,0,b,0)
 else
 if (cop .eql (iop .add .i64 1 a) 9) then
 (g6 e 3).bind fun b=>
 some ((iop .add .i64 1 a),c,d,0,f,0,0,0,0,0,b,0)
 else
 if (cop .eql (iop .add .i64 1 a) 10) then
 (g6 n 4).bind fun b=>
 (g6 r (List.length j:Int)).bind fun g=>
 Zj j g [.int .i64] fun (i:Int)=>
 (g21 i e).bind fun q=>
 some ((iop .add .i64 1 a),c,d,0,b,0,0,0,0,0,0,q)
 else
 some ((iop .add .i64 1 a),c,d,0,f,0,0,0,0,0,0,0)):=by kernel_rfl
noncomputable def F31:Fn:=⟨3,[0],[],[],0,[],[],Tryz.f31,[],[.c (.own false 76)],[]⟩
theorem Zp7:F31.S.Ok Tryz.prog 31:=F31.ok Tryz.func31 (by kernel_rfl) trivial
noncomputable def g31:Option (LL):=F31.S.g []
theorem Zmo:g31 =
 (some ((E0++[[AV.val (.int .i64 262144),AV.val (.int .i64 16),AV.val (.bool false)]]))):=by kernel_rfl
noncomputable def F55:Fn:=⟨32,[2],[],[],0,[],[],Tryz.f55,[.agg [.int .i64,.int .i64]],[.c (.bool)],[]⟩
theorem Zot:F55.S.Ok Tryz.prog 55:=F55.ok Tryz.func55 (by kernel_rfl) trivial
noncomputable def g55 (a b:Int):Option (Bool):=F55.S.g [.i a,.i b]
theorem ZmU (b a:Int):g55 b a =
 (if (cop .lss a 6) then
 some (false)
 else
 if (cop .gtr a 40) then
 some (false)
 else
 if (cop .lss b 0) then
 some (false)
 else
 Zi ((0:Int)≤a)<|
 Zi (((iop .shl .i64 1 a):Int)≠0)<|
 if (cop .eql (iop .rem .i64 b (iop .shl .i64 1 a)) 0) then
 some ((cop .leq b (iop .sub .i64 1099511627776 (iop .shl .i64 1 a))))
 else
 some (false)):=by kernel_rfl
noncomputable def F94:Fn:=⟨12,[2],[],[],0,[],[],Tryz.f94,[.agg [.int .i64,.int .i64]],[.c (.int .i64)],[(55,F55.S)]⟩
theorem ZqL:F94.S.Ok Tryz.prog 94:=F94.ok Tryz.func94 (by kernel_rfl) ⟨Zot,trivial⟩
noncomputable def g94 (a b:Int):Option (Int):=F94.S.g [.i a,.i b]
theorem ZnX (b a:Int):g94 b a =
 ((g55 b a).bind fun c=>
 if (!c) then
 some (0)
 else
 Zi ((0:Int)≤a)<|
 some ((iop .add .i64 b (iop .shl .i64 1 a)))):=by kernel_rfl
noncomputable def F61:Fn:=⟨25,[4],[],[],0,[],[],Tryz.f61,[.agg [.int .i64,.int .i64],.agg [.int .i64,.int .i64]],[.c (.bool)],[(55,F55.S),(94,F94.S)]⟩
theorem ZqK:F61.S.Ok Tryz.prog 61:=F61.ok Tryz.func61 (by kernel_rfl) ⟨Zot,⟨ZqL,trivial⟩⟩
noncomputable def g61 (a b c d:Int):Option (Bool):=F61.S.g [.i a,.i b,.i c,.i d]
theorem Zmf (a c b d:Int):g61 a c b d =
 ((g55 a c).bind fun e=>
 if e then
 (g55 b d).bind fun f=>
 if f then
 if (cop .leq a b) then
 (g94 b d).bind fun g=>
 (g94 a c).bind fun h=>
 some ((cop .leq g h))
 else
 some (false)
 else
 some (false)
 else
 some (false)):=by kernel_rfl
noncomputable def F30:Fn:=⟨24,[4,5],[(2,[(3,.box [.int .i64,.int .i64]),(8,.c (.slice 3)),(9,.c (.int .i64)),(10,.c (.int .i64))])],[],0,[],[],Tryz.f30,[.c (.slice 3),.agg [.int .i64,.int .i64]],[.c (.int .i64),.c (.bool)],[(61,F61.S)]⟩
theorem ZpA:F30.S.Ok Tryz.prog 30:=F30.ok Tryz.func30 (by kernel_rfl) ⟨ZqK,trivial⟩
noncomputable def g30 (a:LL) (b c:Int):Option (Int×Bool):=F30.S.g [.l a,.i b,.i c]
noncomputable def Zge (k:Nat) (a b:Int) (c:LL) (d e:Int):Option (Int×Bool):=F30.lp [0] 0 r0 k [.i a,.i b,.l c,.i d,.i e]
theorem ZeS (k:Nat) (b c:Int) (d:LL) (e a:Int):Zge (k+1) b c d e a =
 (if (cop .lss a e) then
 Zj d a [.int .i64,.int .i64,.bool] fun (f:Int×Int×Bool)=>
 (g61 f.1 f.2.1 b c).bind fun g=>
 if g then
 some (a,true)
 else
 Zge k b c d e (iop .add .i64 a 1)
 else
 some (0,false)):=by kernel_rfl
theorem Zoc (a:LL) (b c:Int):g30 a b c =
 (Zge ZZ b c a (List.length a:Int) 0):=by kernel_rfl
end Go.Proofs.YtapbmpfhogkkaaaGreat
