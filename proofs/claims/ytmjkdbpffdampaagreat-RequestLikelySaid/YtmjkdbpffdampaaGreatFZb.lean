/- Functions of the program, as what they compute. -/
import Derived.Test.YtmjkdbpffdampaaGreatFZa
namespace Go.Proofs.YtmjkdbpffdampaaGreat
open Go Go.AM
set_option linter.unusedVariables false
set_option maxRecDepth 100000
noncomputable def F6:Fn:=⟨16,[4],[],[],0,[],[],Tryz.f6,[.c (.int .i64),.c (.int .i64)],[.c (.int .i64)],[]⟩
theorem ok6:F6.S.Ok Tryz.prog 6:=F6.ok Tryz.func6 (by kernel_rfl) trivial
noncomputable def g6 (a b:Int):Option (Int):=F6.S.g [.i a,.i b]
theorem Zn7 (b a:Int):g6 b a =
 (if (cop .lss a 1) then
 some (0)
 else
 Zn ((a:Int)≠0)<|
 if (cop .lss (iop .rem .i64 b a) 0) then
 some ((iop .add .i64 (iop .rem .i64 b a) a))
 else
 some ((iop .rem .i64 b a))):=by kernel_rfl
noncomputable def F16:Fn:=⟨17,[4],[],[],0,[],[],Tryz.f16,[.c (.slice 1),.c (.int .i64)],[.c (.int .i64)],[]⟩
theorem ZnL:F16.S.Ok Tryz.prog 16:=F16.ok Tryz.func16 (by kernel_rfl) trivial
noncomputable def g16 (a:LL) (b:Int):Option (Int):=F16.S.g [.l a,.i b]
theorem ZjP (b:LL) (a:Int):g16 b a =
 (if (cop .lss a 0) then
 some (0)
 else
 if (cop .geq a (List.length b:Int)) then
 some (0)
 else
 Zq b a [.int .i64] fun (c:Int)=>
 some (c)):=by kernel_rfl
noncomputable def F14:Fn:=⟨94,[2],[(5,[(0,.c (.slice 1)),(2,.box [.slice 1,.int .i64,.int .i64,.slice 3,.slice 1]),(3,.c (.int .i64)),(4,.box [.slice 1,.int .i64,.int .i64,.slice 3,.slice 1]),(5,.c (.int .i64)),(6,.c (.int .i64))]),(10,[(0,.c (.slice 1)),(2,.box [.slice 1,.int .i64,.int .i64,.slice 3,.slice 1]),(4,.box [.slice 1,.int .i64,.int .i64,.slice 3,.slice 1]),(5,.c (.int .i64)),(8,.c (.int .i64))])],[],0,[],[],Tryz.f14,[.c (.slice 1)],[.agg [.slice 1,.int .i64,.int .i64,.slice 3,.slice 1]],[(16,F16.S),(6,F6.S)]⟩
theorem Zpw:F14.S.Ok Tryz.prog 14:=F14.ok Tryz.func14 (by kernel_rfl) ⟨ZnL,⟨ok6,trivial⟩⟩
noncomputable def g14 (a:LL):Option (LL×Int×Int×LL×LL):=F14.S.g [.l a]
noncomputable def Zhp (k:Nat) (a b:LL) (c d:Int) (e f g:LL) (h j:Int) (m n:LL) (o p:Int):Option (LL×Int×Int×LL×LL):=F14.lp [9,1,0] 0 r0 k [.l a,.l b,.i c,.i d,.l e,.l f,.l g,.i h,.i j,.l m,.l n,.i o,.i p]
theorem ZiW (k:Nat) (b i:LL) (j l:Int) (m n f:LL) (e g:Int) (c d:LL) (h a:Int):Zhp (k+1) b i j l m n f e g c d h a =
 (if (cop .lss a h) then
 Zn ((0:Int)≤18)<|
 (g16 b (iop .add .i64 8 a)).bind fun r=>
 (g6 r 3).bind fun o=>
 (g16 b (iop .add .i64 11 a)).bind fun s=>
 (g6 s 5).bind fun p=>
 Zn (Z0 E0 c 24)<|
 Zn (Z0 c (E0++[[AV.val (.int .i64 (iop .shl .i64 (iop .add .i64 a 1) 18)),AV.val (.int .i64 (iop .add .i64 15 o)),AV.val (.bool (cop .eql p 4))]]) 24)<|
 Zn (Z0 E0 d 8)<|
 (g16 b (iop .add .i64 14 a)).bind fun t=>
 (g6 t e).bind fun q=>
 Zn (Z0 d (E0++[[AV.val (.int .i64 q)]]) 8)<|
 Zhp k b i j l m n f e g (c++(E0++[[AV.val (.int .i64 (iop .shl .i64 (iop .add .i64 a 1) 18)),AV.val (.int .i64 (iop .add .i64 15 o)),AV.val (.bool (cop .eql p 4))]])) (d++(E0++[[AV.val (.int .i64 q)]])) h (iop .add .i64 a 1)
 else
 some (f,e,g,c,d)):=by kernel_rfl
noncomputable def ZiF (k:Nat) (a b:LL) (c d:Int) (e f:LL) (g:Int) (h:LL) (j m:Int) (n o:LL) (p q:Int):Option (LL×Int×Int×LL×LL):=F14.lp [9] 0 r0 k [.l a,.l b,.i c,.i d,.l e,.l f,.i g,.l h,.i j,.i m,.l n,.l o,.i p,.i q]
theorem ZjB (k:Nat) (b d:LL) (e f:Int) (g h:LL) (i:Int) (a:LL) (j l:Int) (m n:LL) (o c:Int):ZiF (k+1) b d e f g h i a j l m n o c =
 (if (cop .lss c i) then
 Zn (Z0 E0 a 8)<|
 (g16 b (iop .add .i64 4 c)).bind fun q=>
 (g6 q 2).bind fun r=>
 Zq ((E0++[[AV.val (.int .i64 32)]])++[[AV.val (.int .i64 39)]]) r [.int .i64] fun (p:Int)=>
 Zn (Z0 a (E0++[[AV.val (.int .i64 p)]]) 8)<|
 ZiF k b d e f g h i (a++(E0++[[AV.val (.int .i64 p)]])) j l m n o (iop .add .i64 c 1)
 else
 Zhp Z2 b d e f g h a j l m n o 0):=by kernel_rfl
theorem Zmh (a:LL):g14 a =
 ((g16 a 0).bind fun c=>
 (g6 c 4).bind fun b=>
 (g16 a 1).bind fun d=>
 (g6 d (iop .add .i64 1 b)).bind fun e=>
 (g16 a 2).bind fun f=>
 (g6 f 7).bind fun g=>
 (g16 a 3).bind fun h=>
 (g6 h 3).bind fun i=>
 ZiF Z2 a E0 0 0 E0 E0 (iop .add .i64 1 b) E0 (iop .add .i64 1 e) (iop .add .i64 4 g) E0 E0 (iop .add .i64 1 i) 0):=by kernel_rfl
noncomputable def F5:Fn:=⟨11,[2],[],[],0,[],[],Tryz.f5,[.c (.slice 1)],[.agg [.slice 1,.int .i64,.int .i64,.slice 3,.slice 1]],[(14,F14.S)]⟩
theorem ok5:F5.S.Ok Tryz.prog 5:=F5.ok Tryz.func5 (by kernel_rfl) ⟨Zpw,trivial⟩
noncomputable def g5 (a:LL):Option (LL×Int×Int×LL×LL):=F5.S.g [.l a]
theorem ZnD (b:LL):g5 b =
 ((g14 b).bind fun a=>
 some (a.1,(List.length a.1:Int),a.2.2.1,a.2.2.2.1,a.2.2.2.2)):=by kernel_rfl
noncomputable def F15:Fn:=⟨44,[4],[(3,[(0,.c (.slice 13)),(1,.c (.int .i64)),(5,.c (.own true 69)),(6,.c (.int .i64))])],[],0,[4],[],Tryz.f15,[.c (.slice 13),.c (.int .i64)],[.c (.own true 69)],[(36,F36.S)]⟩
theorem Zph:F15.S.Ok Tryz.prog 15:=F15.ok Tryz.func15 (by kernel_rfl) ⟨Zk7,trivial⟩
noncomputable def g15 (a:LL) (b:Int):Option (LL):=F15.S.g [.l a,.i b]
noncomputable def ZcA (k:Nat) (a:LL) (b:Int) (c:LL) (d:Int):Option (LL):=F15.lp [4] 0 r0 k [.l a,.i b,.l c,.i d]
theorem ZeY (k:Nat) (c:LL) (f:Int) (e:LL) (d:Int):ZcA (k+1) c f e d =
 (if (cop .lss d (List.length c:Int)) then
 Zq c d hs4 fun (h:Qt10)=>
 if (cop .eql h.1 f) then
 Zq c d hs4 fun (i:Qt10)=>
 if (cop .lss i.2.1 12) then
 Zq c d hs4 fun (g:Qt10)=>
 Zq c d hs4 fun (a:Qt10)=>
 (g36 a.2.2.1 a.2.2.2.1 a.2.2.2.2.1 a.2.2.2.2.2.1 a.2.2.2.2.2.2.1 a.2.2.2.2.2.2.2.1 a.2.2.2.2.2.2.2.2.1 a.2.2.2.2.2.2.2.2.2.1 a.2.2.2.2.2.2.2.2.2.2.1 a.2.2.2.2.2.2.2.2.2.2.2.1 (d4 (d8 a))).bind fun b=>
 Zn ((0:Int)≤g.2.1)<|
 Zn ((g.2.1:Int) < (List.length e:Int))<|
 Zn ((0:Int)≤g.2.1)<|
 Zn ((g.2.1:Int) < (List.length e:Int))<|
 ZcA k c f (Jd e (Int.toNat g.2.1) 0 [AV.val (.int .i64 b.1),AV.val (.int .i64 b.2.1),AV.val (.int .i64 b.2.2.1),AV.slice false 3 b.2.2.2.1,AV.val (.int .i64 b.2.2.2.2.1),AV.val (.int .i64 b.2.2.2.2.2.1),AV.val (.int .i64 b.2.2.2.2.2.2.1),AV.val (.int .i64 b.2.2.2.2.2.2.2.1),AV.val (.int .i64 b.2.2.2.2.2.2.2.2.1),AV.val (.int .i64 b.2.2.2.2.2.2.2.2.2.1),AV.val (.bool b.2.2.2.2.2.2.2.2.2.2)]) (iop .add .i64 d 1)
 else
 ZcA k c f e (iop .add .i64 d 1)
 else
 ZcA k c f e (iop .add .i64 d 1)
 else
 some (e)):=by kernel_rfl
theorem Znb (a:LL) (b:Int):g15 a b =
 (Zn (Zkl 12 136)<|
 Zn ((12:Int)≤12)<|
 Zn ((12:Int)≤12)<|
 ZcA Z2 a b (List.replicate (Int.toNat 12) [AV.val (.int .i64 0),AV.val (.int .i64 0),AV.val (.int .i64 0),AV.slice false 3 E0,AV.val (.int .i64 0),AV.val (.int .i64 0),AV.val (.int .i64 0),AV.val (.int .i64 0),AV.val (.int .i64 0),AV.val (.int .i64 0),AV.val (.bool false),AV.val (.int .i64 0),AV.val (.int .i64 0),AV.val (.int .i64 0),AV.val (.int .i64 0)]) 0):=by kernel_rfl
noncomputable def F18:Fn:=⟨10,[2],[],[],0,[],[],Tryz.f18,[.c (.int .i64)],[.agg [.int .i64,.int .i64,.int .i64]],[(6,F6.S)]⟩
theorem Zoj:F18.S.Ok Tryz.prog 18:=F18.ok Tryz.func18 (by kernel_rfl) ⟨ok6,trivial⟩
noncomputable def g18 (a:Int):Option (Int×Int×Int):=F18.S.g [.i a]
theorem ZmX (a:Int):g18 a =
 ((g6 a 4).bind fun b=>
 Zn ((4:Int)≠0)<|
 (g6 (iop .quo .i64 a 4) 20).bind fun c=>
 some (b,(iop .add .i64 1 c),0)):=by kernel_rfl
noncomputable def F20:Fn:=⟨12,[4],[],[],0,[],[],Tryz.f20,[.c (.slice 1),.c (.int .i64)],[.c (.slice 1)],[]⟩
theorem Zpf:F20.S.Ok Tryz.prog 20:=F20.ok Tryz.func20 (by kernel_rfl) trivial
noncomputable def g20 (a:LL) (b:Int):Option (LL):=F20.S.g [.l a,.i b]
theorem Zl0 (b:LL) (a:Int):g20 b a =
 (if (cop .geq a (List.length b:Int)) then
 some (E0)
 else
 Zn ((0:Int)≤a)<|
 Zn ((a:Int)≤(List.length b:Int))<|
 some ((List.drop (Int.toNat a) b))):=by kernel_rfl
noncomputable def F19:Fn:=⟨69,[4],[],[],0,[],[],Tryz.f19,[.c (.slice 1),.agg hs6],[.agg hs0],[(16,F16.S),(18,F18.S),(6,F6.S),(36,F36.S)]⟩
theorem Zpm:F19.S.Ok Tryz.prog 19:=F19.ok Tryz.func19 (by kernel_rfl) ⟨ZnL,⟨Zoj,⟨ok6,⟨Zk7,trivial⟩⟩⟩⟩
noncomputable def g19 (a:LL) (c d e:Int) (f:LL) (h j k m n o:Int) (p:Bool):Option (Qt2):=F19.S.g [.l a,.i c,.i d,.i e,.l f,.i h,.i j,.i k,.i m,.i n,.i o,.b p]
theorem Zm1 (a:LL) (e f g:Int) (h:LL) (i j k l m n:Int) (o:Bool):g19 a e f g h i j k l m n o =
 ((g16 a 0).bind fun D=>
 (g18 D).bind fun c=>
 (g16 a 1).bind fun E=>
 (g6 E 3).bind fun p=>
 (g16 a 2).bind fun G=>
 (g6 G 2).bind fun H=>
 Zq ((E0++[[AV.val (.int .i64 32)]])++[[AV.val (.int .i64 39)]]) H [.int .i64] fun (q:Int)=>
 (g36 e f g h i j k l m n o).bind fun b=>
 (g16 a 3).bind fun J=>
 (g6 J 6).bind fun d=>
 (g16 a 4).bind fun K=>
 (g6 K 8).bind fun r=>
 (g16 a 5).bind fun L=>
 (g6 L 8).bind fun s=>
 (g16 a 6).bind fun M=>
 (g6 M 4).bind fun t=>
 (g16 a 7).bind fun N=>
 (g6 N 8).bind fun u=>
 (g16 a 8).bind fun O=>
 (g6 O 6).bind fun v=>
 (g16 a 9).bind fun P=>
 (g6 P 3).bind fun w=>
 (g16 a 10).bind fun Q=>
 (g6 Q 2).bind fun x=>
 (g16 a 11).bind fun R=>
 (g6 R 8).bind fun y=>
 Zn ((0:Int)≤12)<|
 (g16 a 12).bind fun T=>
 (g6 T 3).bind fun z=>
 (g16 a 13).bind fun A=>
 (g16 a 14).bind fun C=>
 if (cop .eql (iop .add .i64 1 d) 1) then
 some (c.1,c.2.1,c.2.2,(iop .add .i64 1 d),r,s,t,u,(iop .add .i64 1 v),(iop .add .i64 12 w),x,(iop .shl .i64 y 12),(iop .add .i64 1 z),A,C,p,q,0,0,0,E0,0,0,0,0,0,0,false)
 else
 some (c.1,c.2.1,c.2.2,(iop .add .i64 1 d),r,s,t,u,(iop .add .i64 1 v),(iop .add .i64 12 w),x,(iop .shl .i64 y 12),(iop .add .i64 1 z),A,C,p,q,b.1,b.2.1,b.2.2.1,b.2.2.2.1,b.2.2.2.2.1,b.2.2.2.2.2.1,b.2.2.2.2.2.2.1,b.2.2.2.2.2.2.2.1,b.2.2.2.2.2.2.2.2.1,b.2.2.2.2.2.2.2.2.2.1,b.2.2.2.2.2.2.2.2.2.2)):=by kernel_rfl
noncomputable def F21:Fn:=⟨30,[4],[],[],0,[],[],Tryz.f21,[.agg [.int .i64,.int .i64,.int .i64],.agg [.int .i64,.int .i64,.int .i64]],[.c (.bool)],[]⟩
theorem Zox:F21.S.Ok Tryz.prog 21:=F21.ok Tryz.func21 (by kernel_rfl) trivial
noncomputable def g21 (a b c d e f:Int):Option (Bool):=F21.S.g [.i a,.i b,.i c,.i d,.i e,.i f]
theorem Zmy (a b e c d f:Int):g21 a b e c d f =
 (if (cop .neq a c) then
 some ((cop .lss a c))
 else
 if (cop .neq b d) then
 some ((cop .lss b d))
 else
 some ((cop .lss e f))):=by kernel_rfl
noncomputable def F7:Fn:=⟨203,[6],[(3,[(0,.c (.slice 1)),(1,.c (.slice 13)),(6,.box hs16),(7,.box hs14),(8,.c (.int .i64))]),(10,[(0,.c (.slice 1)),(1,.c (.slice 13)),(6,.box hs16),(7,.box hs14),(9,.c (.int .i64))]),(17,[(0,.c (.slice 1)),(1,.c (.slice 13)),(6,.box hs16),(7,.box hs14),(12,.c (.int .i64))]),(22,[(0,.c (.slice 1)),(1,.c (.slice 13)),(6,.box hs16),(7,.box hs14),(14,.c (.int .i64))]),(27,[(0,.c (.slice 1)),(1,.c (.slice 13)),(6,.box hs16),(7,.box hs14),(16,.c (.int .i64))])],[],0,[],[(33,[(7,1)])],Tryz.f7,[.c (.slice 1),.c (.slice 13),.c (.int .i64)],[.agg hs16],[(15,F15.S),(16,F16.S),(6,F6.S),(17,F17.S),(18,F18.S),(20,F20.S),(19,F19.S),(21,F21.S)]⟩
theorem ok7:F7.S.Ok Tryz.prog 7:=F7.ok Tryz.func7 (by kernel_rfl) ⟨Zph,⟨ZnL,⟨ok6,⟨ZnO,⟨Zoj,⟨Zpf,⟨Zpm,⟨Zox,trivial⟩⟩⟩⟩⟩⟩⟩⟩
noncomputable def g7 (a b:LL) (c:Int):Option (Qt18):=F7.S.g [.l a,.l b,.i c]
noncomputable def Zk8 (k:Nat) (a b c d e f g h j m n o p q:LL) (r:Int):Option (Qt18):=F7.lp [2,1,4,1,3,1,3,1,0] 0 r0 k [.l a,.l b,.l c,.l d,.l e,.l f,.l g,.l h,.l j,.l m,.l n,.l o,.l p,.l q,.i r]
theorem ZkN (k:Nat) (f g m n o p q r h i j l b c:LL) (d:Int):Zk8 (k+1) f g m n o p q r h i j l b c d =
 ((g16 f 18).bind fun s=>
 (g6 s 3).bind fun t=>
 if (cop .lss d t) then
 if (cop .lss d (List.length g:Int)) then
 Zn (Z0 E0 b 120)<|
 Zq g d hs4 fun (a:Qt10)=>
 Zn (Z0 b (E0++[[AV.val (.int .i64 a.1),AV.val (.int .i64 a.2.1),AV.val (.int .i64 a.2.2.1),AV.val (.int .i64 a.2.2.2.1),AV.val (.int .i64 a.2.2.2.2.1),AV.slice false 3 a.2.2.2.2.2.1,AV.val (.int .i64 a.2.2.2.2.2.2.1),AV.val (.int .i64 a.2.2.2.2.2.2.2.1),AV.val (.int .i64 a.2.2.2.2.2.2.2.2.1),AV.val (.int .i64 a.2.2.2.2.2.2.2.2.2.1),AV.val (.int .i64 a.2.2.2.2.2.2.2.2.2.2.1),AV.val (.int .i64 a.2.2.2.2.2.2.2.2.2.2.2.1),AV.val (.bool (d4 (d8 a)))]]) 120)<|
 Zn (Z0 E0 c 24)<|
 (g16 f (iop .add .i64 19 d)).bind fun u=>
 (g18 u).bind fun e=>
 Zn (Z0 c (E0++[[AV.val (.int .i64 e.1),AV.val (.int .i64 e.2.1),AV.val (.int .i64 e.2.2)]]) 24)<|
 Zk8 k f g m n o p q r h i j l (b++(E0++[[AV.val (.int .i64 a.1),AV.val (.int .i64 a.2.1),AV.val (.int .i64 a.2.2.1),AV.val (.int .i64 a.2.2.2.1),AV.val (.int .i64 a.2.2.2.2.1),AV.slice false 3 a.2.2.2.2.2.1,AV.val (.int .i64 a.2.2.2.2.2.2.1),AV.val (.int .i64 a.2.2.2.2.2.2.2.1),AV.val (.int .i64 a.2.2.2.2.2.2.2.2.1),AV.val (.int .i64 a.2.2.2.2.2.2.2.2.2.1),AV.val (.int .i64 a.2.2.2.2.2.2.2.2.2.2.1),AV.val (.int .i64 a.2.2.2.2.2.2.2.2.2.2.2.1),AV.val (.bool (d4 (d8 a)))]])) (c++(E0++[[AV.val (.int .i64 e.1),AV.val (.int .i64 e.2.1),AV.val (.int .i64 e.2.2)]])) (iop .add .i64 d 1)
 else
 some (h,i,j,l,b,c)
 else
 some (h,i,j,l,b,c)):=by kernel_rfl
noncomputable def Zlf (k:Nat) (a b c d e f g h j m n o p q:LL) (r:Int):Option (Qt18):=F7.lp [2,1,4,1,3,1,0] 0 r0 k [.l a,.l b,.l c,.l d,.l e,.l f,.l g,.l h,.l j,.l m,.l n,.l o,.l p,.l q,.i r]
theorem Zk2 (k:Nat) (b d e f g h i j l m n c o p:LL) (a:Int):Zlf (k+1) b d e f g h i j l m n c o p a =
 ((g16 b 16).bind fun r=>
 (g6 r 3).bind fun s=>
 if (cop .lss a s) then
 Zn (Z0 E0 c 16)<|
 (g16 b (iop .add .i64 17 a)).bind fun t=>
 (g6 t 20).bind fun q=>
 Zn (Z0 c (E0++[[AV.val (.int .i64 (iop .add .i64 a 1)),AV.val (.int .i64 q)]]) 16)<|
 Zlf k b d e f g h i j l m n (c++(E0++[[AV.val (.int .i64 (iop .add .i64 a 1)),AV.val (.int .i64 q)]])) o p (iop .add .i64 a 1)
 else
 Zk8 Z2 b d e f g h i j l m n c o p 0):=by kernel_rfl
noncomputable def Zj8 (k:Nat) (a b c d e f g h j m n o p q:LL) (r:Int):Option (Qt18):=F7.lp [2,1,4,1,0] 0 r0 k [.l a,.l b,.l c,.l d,.l e,.l f,.l g,.l h,.l j,.l m,.l n,.l o,.l p,.l q,.i r]
theorem ZkO (k:Nat) (c e f g h i j l m n d o p q:LL) (a:Int):Zj8 (k+1) c e f g h i j l m n d o p q a =
 ((g16 c 14).bind fun r=>
 (g6 r 3).bind fun s=>
 if (cop .lss a s) then
 Zn (Z0 E0 d 32)<|
 (g16 c (iop .add .i64 15 a)).bind fun t=>
 (g18 t).bind fun b=>
 Zn (Z0 d (E0++[[AV.val (.int .i64 a),AV.val (.int .i64 b.1),AV.val (.int .i64 b.2.1),AV.val (.int .i64 b.2.2)]]) 32)<|
 Zj8 k c e f g h i j l m n (d++(E0++[[AV.val (.int .i64 a),AV.val (.int .i64 b.1),AV.val (.int .i64 b.2.1),AV.val (.int .i64 b.2.2)]])) o p q (iop .add .i64 a 1)
 else
 Zlf Z2 c e f g h i j l m n d o p q 0):=by kernel_rfl
noncomputable def ZiX (k:Nat) (a b c d e f g h j m n o p q:LL) (r:Int):Option (Qt18):=F7.lp [2,1,0] 0 r0 k [.l a,.l b,.l c,.l d,.l e,.l f,.l g,.l h,.l j,.l m,.l n,.l o,.l p,.l q,.i r]
theorem ZkK (k:Nat) (d e g h i j l m n b o p q r:LL) (f:Int):ZiX (k+1) d e g h i j l m n b o p q r f =
 ((g16 d 12).bind fun t=>
 (g6 t 3).bind fun u=>
 if (cop .lss f u) then
 if (cop .gtr (List.length e:Int) 0) then
 (g20 d (iop .add .i64 13 f)).bind fun v=>
 (g16 d f).bind fun w=>
 (g6 w (List.length e:Int)).bind fun x=>
 Zq e x hs4 fun (c:Qt10)=>
 (g19 v c.2.2.1 c.2.2.2.1 c.2.2.2.2.1 c.2.2.2.2.2.1 c.2.2.2.2.2.2.1 c.2.2.2.2.2.2.2.1 c.2.2.2.2.2.2.2.2.1 c.2.2.2.2.2.2.2.2.2.1 c.2.2.2.2.2.2.2.2.2.2.1 c.2.2.2.2.2.2.2.2.2.2.2.1 (d4 (d8 c))).bind fun a=>
 if (cop .eql (List.length b:Int) 0) then
 Zn (Z0 E0 b 240)<|
 Zn (Z0 b (E0++[[I a.1,I a.2.1,I a.2.2.1,I a.2.2.2.1,I a.2.2.2.2.1,I a.2.2.2.2.2.1,I a.2.2.2.2.2.2.1,I a.2.2.2.2.2.2.2.1,I a.2.2.2.2.2.2.2.2.1,I a.2.2.2.2.2.2.2.2.2.1,I a.2.2.2.2.2.2.2.2.2.2.1,I a.2.2.2.2.2.2.2.2.2.2.2.1,AV.val (.int .i64 (d4 (d8 a)).1),AV.val (.int .i64 (d4 (d8 a)).2.1),AV.val (.int .i64 (d2 (d4 (d8 a))).1),AV.val (.int .i64 (d2 (d4 (d8 a))).2.1),AV.val (.int .i64 (d16 a).1),AV.val (.int .i64 (d16 a).2.1),AV.val (.int .i64 (d2 (d16 a)).1),AV.val (.int .i64 (d2 (d16 a)).2.1),AV.slice false 3 (d4 (d16 a)).1,AV.val (.int .i64 (d4 (d16 a)).2.1),AV.val (.int .i64 (d2 (d4 (d16 a))).1),AV.val (.int .i64 (d2 (d4 (d16 a))).2.1),AV.val (.int .i64 (d8 (d16 a)).1),AV.val (.int .i64 (d8 (d16 a)).2.1),AV.val (.int .i64 (d2 (d8 (d16 a))).1),AV.val (.bool (d2 (d8 (d16 a))).2)]]) 240)<|
 ZiX k d e g h i j l m n (b++(E0++[[I a.1,I a.2.1,I a.2.2.1,I a.2.2.2.1,I a.2.2.2.2.1,I a.2.2.2.2.2.1,I a.2.2.2.2.2.2.1,I a.2.2.2.2.2.2.2.1,I a.2.2.2.2.2.2.2.2.1,I a.2.2.2.2.2.2.2.2.2.1,I a.2.2.2.2.2.2.2.2.2.2.1,I a.2.2.2.2.2.2.2.2.2.2.2.1,AV.val (.int .i64 (d4 (d8 a)).1),AV.val (.int .i64 (d4 (d8 a)).2.1),AV.val (.int .i64 (d2 (d4 (d8 a))).1),AV.val (.int .i64 (d2 (d4 (d8 a))).2.1),AV.val (.int .i64 (d16 a).1),AV.val (.int .i64 (d16 a).2.1),AV.val (.int .i64 (d2 (d16 a)).1),AV.val (.int .i64 (d2 (d16 a)).2.1),AV.slice false 3 (d4 (d16 a)).1,AV.val (.int .i64 (d4 (d16 a)).2.1),AV.val (.int .i64 (d2 (d4 (d16 a))).1),AV.val (.int .i64 (d2 (d4 (d16 a))).2.1),AV.val (.int .i64 (d8 (d16 a)).1),AV.val (.int .i64 (d8 (d16 a)).2.1),AV.val (.int .i64 (d2 (d8 (d16 a))).1),AV.val (.bool (d2 (d8 (d16 a))).2)]])) o p q r (iop .add .i64 f 1)
 else
 Zq b (iop .sub .i64 (List.length b:Int) 1) hs0 fun (s:Qt2)=>
 (g21 s.1 s.2.1 s.2.2.1 a.1 a.2.1 a.2.2.1).bind fun y=>
 if y then
 Zn (Z0 E0 b 240)<|
 Zn (Z0 b (E0++[[I a.1,I a.2.1,I a.2.2.1,I a.2.2.2.1,I a.2.2.2.2.1,I a.2.2.2.2.2.1,I a.2.2.2.2.2.2.1,I a.2.2.2.2.2.2.2.1,I a.2.2.2.2.2.2.2.2.1,I a.2.2.2.2.2.2.2.2.2.1,I a.2.2.2.2.2.2.2.2.2.2.1,I a.2.2.2.2.2.2.2.2.2.2.2.1,AV.val (.int .i64 (d4 (d8 a)).1),AV.val (.int .i64 (d4 (d8 a)).2.1),AV.val (.int .i64 (d2 (d4 (d8 a))).1),AV.val (.int .i64 (d2 (d4 (d8 a))).2.1),AV.val (.int .i64 (d16 a).1),AV.val (.int .i64 (d16 a).2.1),AV.val (.int .i64 (d2 (d16 a)).1),AV.val (.int .i64 (d2 (d16 a)).2.1),AV.slice false 3 (d4 (d16 a)).1,AV.val (.int .i64 (d4 (d16 a)).2.1),AV.val (.int .i64 (d2 (d4 (d16 a))).1),AV.val (.int .i64 (d2 (d4 (d16 a))).2.1),AV.val (.int .i64 (d8 (d16 a)).1),AV.val (.int .i64 (d8 (d16 a)).2.1),AV.val (.int .i64 (d2 (d8 (d16 a))).1),AV.val (.bool (d2 (d8 (d16 a))).2)]]) 240)<|
 ZiX k d e g h i j l m n (b++(E0++[[I a.1,I a.2.1,I a.2.2.1,I a.2.2.2.1,I a.2.2.2.2.1,I a.2.2.2.2.2.1,I a.2.2.2.2.2.2.1,I a.2.2.2.2.2.2.2.1,I a.2.2.2.2.2.2.2.2.1,I a.2.2.2.2.2.2.2.2.2.1,I a.2.2.2.2.2.2.2.2.2.2.1,I a.2.2.2.2.2.2.2.2.2.2.2.1,AV.val (.int .i64 (d4 (d8 a)).1),AV.val (.int .i64 (d4 (d8 a)).2.1),AV.val (.int .i64 (d2 (d4 (d8 a))).1),AV.val (.int .i64 (d2 (d4 (d8 a))).2.1),AV.val (.int .i64 (d16 a).1),AV.val (.int .i64 (d16 a).2.1),AV.val (.int .i64 (d2 (d16 a)).1),AV.val (.int .i64 (d2 (d16 a)).2.1),AV.slice false 3 (d4 (d16 a)).1,AV.val (.int .i64 (d4 (d16 a)).2.1),AV.val (.int .i64 (d2 (d4 (d16 a))).1),AV.val (.int .i64 (d2 (d4 (d16 a))).2.1),AV.val (.int .i64 (d8 (d16 a)).1),AV.val (.int .i64 (d8 (d16 a)).2.1),AV.val (.int .i64 (d2 (d8 (d16 a))).1),AV.val (.bool (d2 (d8 (d16 a))).2)]])) o p q r (iop .add .i64 f 1)
 else
 ZiX k d e g h i j l m n b o p q r (iop .add .i64 f 1)
 else
 Zj8 Z2 d e g h i j l m n b o p q r 0
 else
 Zj8 Z2 d e g h i j l m n b o p q r 0):=by kernel_rfl
noncomputable def ZfL (k:Nat) (a b c d e f g h j m n o p q:LL) (r:Int):Option (Qt18):=F7.lp [2] 0 r0 k [.l a,.l b,.l c,.l d,.l e,.l f,.l g,.l h,.l j,.l m,.l n,.l o,.l p,.l q,.i r]
theorem Zkq (k:Nat) (d f g h i j l m b n o p q r:LL) (a:Int):ZfL (k+1) d f g h i j l m b n o p q r a =
 (if (cop .lss a (List.length b:Int)) then
 (g16 d a).bind fun t=>
 (g6 t 5).bind fun u=>
 if (cop .eql u 4) then
 Zn ((0:Int)≤a)<|
 Zn ((a:Int) < (List.length b:Int))<|
 Zq b a hs3 fun (c:Qt9)=>
 (g17 c.1 c.2.1 c.2.2.1 c.2.2.2.1 c.2.2.2.2.1 c.2.2.2.2.2.1 c.2.2.2.2.2.2.1 c.2.2.2.2.2.2.2.1 c.2.2.2.2.2.2.2.2.1 c.2.2.2.2.2.2.2.2.2.1 c.2.2.2.2.2.2.2.2.2.2.1 c.2.2.2.2.2.2.2.2.2.2.2.1 (d4 (d8 c)).1 (d4 (d8 c)).2.1 (d2 (d4 (d8 c)))).bind fun v=>
 if (!v) then
 (g16 d a).bind fun s=>
 Zn ((5:Int)≠0)<|
 (g18 (iop .quo .i64 s 5)).bind fun e=>
 Zn ((0:Int)≤a)<|
 Zn ((a:Int) < (List.length b:Int))<|
 Zn ((0:Int)≤a)<|
 Zn ((a:Int) < (List.length b:Int))<|
 (g16 d a).bind fun w=>
 (g6 w 7).bind fun x=>
 if (cop .eql x 6) then
 (g16 d a).bind fun y=>
 Zn ((7:Int)≠0)<|
 (g6 (iop .quo .i64 y 7) 20).bind fun z=>
 Zn ((0:Int)≤a)<|
 Zn ((a:Int) < (List.length (Jd b (Int.toNat a) 12 [AV.val (.int .i64 e.1),AV.val (.int .i64 e.2.1),AV.val (.int .i64 e.2.2)]):Int))<|
 Zn ((0:Int)≤a)<|
 Zn ((a:Int) < (List.length (Jd b (Int.toNat a) 12 [AV.val (.int .i64 e.1),AV.val (.int .i64 e.2.1),AV.val (.int .i64 e.2.2)]):Int))<|
 ZfL k d f g h i j l m (Jd (Jd b (Int.toNat a) 12 [AV.val (.int .i64 e.1),AV.val (.int .i64 e.2.1),AV.val (.int .i64 e.2.2)]) (Int.toNat a) 11 [AV.val (.int .i64 (iop .add .i64 1 z))]) n o p q r (iop .add .i64 a 1)
 else
 ZfL k d f g h i j l m (Jd b (Int.toNat a) 12 [AV.val (.int .i64 e.1),AV.val (.int .i64 e.2.1),AV.val (.int .i64 e.2.2)]) n o p q r (iop .add .i64 a 1)
 else
 (g16 d a).bind fun s=>
 (g6 s 7).bind fun e=>
 if (cop .eql e 6) then
 (g16 d a).bind fun A=>
 Zn ((7:Int)≠0)<|
 (g6 (iop .quo .i64 A 7) 20).bind fun C=>
 Zn ((0:Int)≤a)<|
 Zn ((a:Int) < (List.length b:Int))<|
 Zn ((0:Int)≤a)<|
 Zn ((a:Int) < (List.length b:Int))<|
 ZfL k d f g h i j l m (Jd b (Int.toNat a) 11 [AV.val (.int .i64 (iop .add .i64 1 C))]) n o p q r (iop .add .i64 a 1)
 else
 ZfL k d f g h i j l m b n o p q r (iop .add .i64 a 1)
 else
 (g16 d a).bind fun c=>
 (g6 c 7).bind fun D=>
 if (cop .eql D 6) then
 (g16 d a).bind fun E=>
 Zn ((7:Int)≠0)<|
 (g6 (iop .quo .i64 E 7) 20).bind fun G=>
 Zn ((0:Int)≤a)<|
 Zn ((a:Int) < (List.length b:Int))<|
 Zn ((0:Int)≤a)<|
 Zn ((a:Int) < (List.length b:Int))<|
 ZfL k d f g h i j l m (Jd b (Int.toNat a) 11 [AV.val (.int .i64 (iop .add .i64 1 G))]) n o p q r (iop .add .i64 a 1)
 else
 ZfL k d f g h i j l m b n o p q r (iop .add .i64 a 1)
 else
 ZiX Z2 d f g h i j l m b n o p q r 0):=by kernel_rfl
theorem Zob (b a:LL) (c:Int):g7 b a c =
 ((g15 a c).bind fun d=>
 ZfL Z2 b a E0 E0 E0 E0 E0 E0 d E0 E0 E0 E0 E0 0):=by kernel_rfl
noncomputable def F63:Fn:=⟨20,[4],[],[],0,[],[],Tryz.f63,[.c (.int .i64),.c (.int .i64)],[.agg [.int .i64,.int .i64]],[(6,F6.S)]⟩
theorem ZoZ:F63.S.Ok Tryz.prog 63:=F63.ok Tryz.func63 (by kernel_rfl) ⟨ok6,trivial⟩
noncomputable def g63 (a b:Int):Option (Int×Int):=F63.S.g [.i a,.i b]
theorem ZlV (b c:Int):g63 b c =
 ((g6 c 11).bind fun a=>
 Zn ((0:Int)≤(IntKind.wrap .u64 (iop .sub .i64 16 (iop .add .i64 6 a))))<|
 (g6 b (iop .shl .i64 1 (IntKind.wrap .u64 (iop .sub .i64 16 (iop .add .i64 6 a))))).bind fun d=>
 Zn ((0:Int)≤(IntKind.wrap .u64 (iop .add .i64 6 a)))<|
 some ((iop .shl .i64 d (IntKind.wrap .u64 (iop .add .i64 6 a))),(iop .add .i64 6 a))):=by kernel_rfl
noncomputable def F37:Fn:=⟨14,[4],[],[],0,[],[],Tryz.f37,[.c (.int .i64),.c (.int .i64)],[.agg hs11],[(63,F63.S)]⟩
theorem Zo8:F37.S.Ok Tryz.prog 37:=F37.ok Tryz.func37 (by kernel_rfl) ⟨ZoZ,trivial⟩
noncomputable def g37 (a b:Int):Option (Qt17):=F37.S.g [.i a,.i b]
theorem Zm7 (a b:Int):g37 a b =
 ((g63 a b).bind fun c=>
 some (1,c.1,c.2,7,0,0,false)):=by kernel_rfl
noncomputable def F64:Fn:=⟨21,[4],[(2,[(0,.c (.slice 13)),(3,.box [.int .i64,.int .i64,.int .i64]),(5,.c (.int .i64))])],[],0,[],[],Tryz.f64,[.c (.slice 13),.agg [.int .i64,.int .i64,.int .i64]],[.c (.int .i64)],[]⟩
theorem Zog:F64.S.Ok Tryz.prog 64:=F64.ok Tryz.func64 (by kernel_rfl) trivial
noncomputable def g64 (a:LL) (b c d:Int):Option (Int):=F64.S.g [.l a,.i b,.i c,.i d]
noncomputable def Zge (k:Nat) (a:LL) (b c d e:Int):Option (Int):=F64.lp [0] 0 r0 k [.l a,.i b,.i c,.i d,.i e]
theorem ZfI (k:Nat) (b:LL) (c d e a:Int):Zge (k+1) b c d e a =
 (if (cop .lss a (List.length b:Int)) then
 Zq b a hs4 fun (f:Qt10)=>
 if ((cop .eql f.2.2.1 c)&&((cop .eql f.2.2.2.1 d)&&((cop .eql f.2.2.2.2.1 e)&&true))) then
 some (a)
 else
 Zge k b c d e (iop .add .i64 a 1)
 else
 some ((-1))):=by kernel_rfl
theorem ZlH (a:LL) (b c d:Int):g64 a b c d =
 (Zge Z2 a b c d 0):=by kernel_rfl
noncomputable def F66:Fn:=⟨25,[4],[],[],0,[],[],Tryz.f66,[.agg [.int .i64,.int .i64],.agg [.int .i64,.int .i64]],[.c (.bool)],[(46,F46.S),(86,F86.S)]⟩
theorem ZoP:F66.S.Ok Tryz.prog 66:=F66.ok Tryz.func66 (by kernel_rfl) ⟨ZlN,⟨Zof,trivial⟩⟩
noncomputable def g66 (a b c d:Int):Option (Bool):=F66.S.g [.i a,.i b,.i c,.i d]
theorem ZmG (a c b d:Int):g66 a c b d =
 ((g46 a c).bind fun e=>
 if e then
 (g46 b d).bind fun f=>
 if f then
 (g86 b d).bind fun g=>
 if (cop .lss a g) then
 (g86 a c).bind fun h=>
 some ((cop .lss b h))
 else
 some (false)
 else
 some (false)
 else
 some (false)):=by kernel_rfl
noncomputable def F38:Fn:=⟨64,[6],[(3,[(0,.c (.slice 13)),(2,.c (.slice 7)),(7,.c (.int .i64)),(8,.c (.int .i64))]),(6,[(0,.c (.slice 13)),(2,.c (.slice 7)),(7,.c (.int .i64)),(8,.c (.int .i64)),(9,.c (.int .i64))])],[],0,[],[],Tryz.f38,[.c (.slice 13),.agg [.int .i64,.int .i64,.int .i64],.c (.slice 7)],[.c (.bool)],[(64,F64.S),(50,F50.S),(65,F65.S),(66,F66.S)]⟩
theorem Zpt:F38.S.Ok Tryz.prog 38:=F38.ok Tryz.func38 (by kernel_rfl) ⟨Zog,⟨Zn6,⟨ZoA,⟨ZoP,trivial⟩⟩⟩⟩
noncomputable def g38 (a:LL) (b c d:Int) (e:LL):Option (Bool):=F38.S.g [.l a,.i b,.i c,.i d,.l e]
noncomputable def Zas (rec0:List V→Option (Bool)) (k:Nat) (a b:LL) (c d e:Int):Option (Bool):=F38.lp [3,0] 1 (Zle r0 0 rec0) k [.l a,.l b,.i c,.i d,.i e]
theorem Zft (rec0:List V→Option (Bool)) (k:Nat) (c d:LL) (f e h:Int):Zas rec0 (k+1) c d f e h =
 (if (cop .lss h (List.length c:Int)) then
 Zq c h hs4 fun (a:Qt10)=>
 if (cop .geq f 0) then
 if (cop .eql a.2.2.2.2.2.2.1 1) then
 (g50 a.2.2.2.2.2.2.1 a.2.2.2.2.2.2.2.1 a.2.2.2.2.2.2.2.2.1 a.2.2.2.2.2.2.2.2.2.1 a.2.2.2.2.2.2.2.2.2.2.1 a.2.2.2.2.2.2.2.2.2.2.2.1 (d4 (d8 a))).bind fun g=>
 Zq c f hs4 fun (b:Qt10)=>
 (g50 b.2.2.2.2.2.2.1 b.2.2.2.2.2.2.2.1 b.2.2.2.2.2.2.2.2.1 b.2.2.2.2.2.2.2.2.2.1 b.2.2.2.2.2.2.2.2.2.2.1 b.2.2.2.2.2.2.2.2.2.2.2.1 (d4 (d8 b))).bind fun o=>
 (g65 g.1 g.2 o.1 o.2).bind fun r=>
 (g50 a.2.2.2.2.2.2.1 a.2.2.2.2.2.2.2.1 a.2.2.2.2.2.2.2.2.1 a.2.2.2.2.2.2.2.2.2.1 a.2.2.2.2.2.2.2.2.2.2.1 a.2.2.2.2.2.2.2.2.2.2.2.1 (d4 (d8 a))).bind fun p=>
 Zq d e hs11 fun (j:Qt17)=>
 (g50 j.1 j.2.1 j.2.2.1 j.2.2.2.1 j.2.2.2.2.1 j.2.2.2.2.2.1 j.2.2.2.2.2.2).bind fun q=>
 (g66 p.1 p.2 q.1 q.2).bind fun s=>
 if s then
 if (!r) then
 some (true)
 else
 Zas rec0 k c d f e (iop .add .i64 h 1)
 else
 Zas rec0 k c d f e (iop .add .i64 h 1)
 else
 (g50 a.2.2.2.2.2.2.1 a.2.2.2.2.2.2.2.1 a.2.2.2.2.2.2.2.2.1 a.2.2.2.2.2.2.2.2.2.1 a.2.2.2.2.2.2.2.2.2.2.1 a.2.2.2.2.2.2.2.2.2.2.2.1 (d4 (d8 a))).bind fun g=>
 Zq d e hs11 fun (b:Qt17)=>
 (g50 b.1 b.2.1 b.2.2.1 b.2.2.2.1 b.2.2.2.2.1 b.2.2.2.2.2.1 b.2.2.2.2.2.2).bind fun m=>
 (g66 g.1 g.2 m.1 m.2).bind fun n=>
 if n then
 some (true)
 else
 Zas rec0 k c d f e (iop .add .i64 h 1)
 else
 (g50 a.2.2.2.2.2.2.1 a.2.2.2.2.2.2.2.1 a.2.2.2.2.2.2.2.2.1 a.2.2.2.2.2.2.2.2.2.1 a.2.2.2.2.2.2.2.2.2.2.1 a.2.2.2.2.2.2.2.2.2.2.2.1 (d4 (d8 a))).bind fun g=>
 Zq d e hs11 fun (b:Qt17)=>
 (g50 b.1 b.2.1 b.2.2.1 b.2.2.2.1 b.2.2.2.2.1 b.2.2.2.2.2.1 b.2.2.2.2.2.2).bind fun m=>
 (g66 g.1 g.2 m.1 m.2).bind fun n=>
 if n then
 some (true)
 else
 Zas rec0 k c d f e (iop .add .i64 h 1)
 else
 rec0 [.l c,.l d,.i f,.i (iop .add .i64 e 1)]):=by kernel_rfl
noncomputable def ZgL (k:Nat) (a b:LL) (c d:Int):Option (Bool):=F38.lp [2] 0 r0 k [.l a,.l b,.i c,.i d]
theorem ZfB (k:Nat) (c a:LL) (d b:Int):ZgL (k+1) c a d b =
 (if (cop .lss b (List.length a:Int)) then
 Zas (F38.lp [2] 0 r0 k) Z2 c a d b 0
 else
 some (false)):=by kernel_rfl
theorem Zne (a:LL) (b c d:Int) (e:LL):g38 a b c d e =
 ((g64 a b c d).bind fun f=>
 ZgL Z2 a e f 0):=by kernel_rfl
noncomputable def F87:Fn:=⟨31,[6],[(2,[(0,.c (.slice 13)),(1,.c (.int .i64)),(2,.c (.int .i64)),(7,.c (.int .i64))])],[],0,[],[],Tryz.f87,[.c (.slice 13),.c (.int .i64),.c (.int .i64)],[.c (.int .i64)],[]⟩
theorem Zpj:F87.S.Ok Tryz.prog 87:=F87.ok Tryz.func87 (by kernel_rfl) trivial
noncomputable def g87 (a:LL) (b c:Int):Option (Int):=F87.S.g [.l a,.i b,.i c]
noncomputable def Zer (k:Nat) (a:LL) (b c d:Int):Option (Int):=F87.lp [0] 0 r0 k [.l a,.i b,.i c,.i d]
theorem ZeU (k:Nat) (b:LL) (c d a:Int):Zer (k+1) b c d a =
 (if (cop .lss a (List.length b:Int)) then
 Zq b a hs4 fun (e:Qt10)=>
 if (cop .eql e.1 c) then
 Zq b a hs4 fun (f:Qt10)=>
 if (cop .eql f.2.1 d) then
 some (a)
 else
 Zer k b c d (iop .add .i64 a 1)
 else
 Zer k b c d (iop .add .i64 a 1)
 else
 some ((-1))):=by kernel_rfl
theorem Zlo (a:LL) (b c:Int):g87 a b c =
 (Zer Z2 a b c 0):=by kernel_rfl
noncomputable def F88:Fn:=⟨32,[2],[(3,[(0,.c (.slice 13)),(3,.c (.own false 74)),(4,.c (.int .i64))])],[],0,[],[],Tryz.f88,[.c (.slice 13)],[.c (.own false 74)],[(36,F36.S)]⟩
theorem ZoO:F88.S.Ok Tryz.prog 88:=F88.ok Tryz.func88 (by kernel_rfl) ⟨Zk7,trivial⟩
noncomputable def g88 (a:LL):Option (LL):=F88.S.g [.l a]
noncomputable def Zgi (k:Nat) (a b:LL) (c:Int):Option (LL):=F88.lp [0] 0 r0 k [.l a,.l b,.i c]
theorem ZeW (k:Nat) (c e:LL) (d:Int):Zgi (k+1) c e d =
 (if (cop .lss d (List.length c:Int)) then
 Zq c d hs4 fun (f:Qt10)=>
 Zq c d hs4 fun (g:Qt10)=>
 Zq c d hs4 fun (b:Qt10)=>
 (g36 b.2.2.1 b.2.2.2.1 b.2.2.2.2.1 b.2.2.2.2.2.1 b.2.2.2.2.2.2.1 b.2.2.2.2.2.2.2.1 b.2.2.2.2.2.2.2.2.1 b.2.2.2.2.2.2.2.2.2.1 b.2.2.2.2.2.2.2.2.2.2.1 b.2.2.2.2.2.2.2.2.2.2.2.1 (d4 (d8 b))).bind fun a=>
 Zn (Z0 e (E0++[[AV.val (.int .i64 f.1),AV.val (.int .i64 g.2.1),AV.val (.int .i64 a.1),AV.val (.int .i64 a.2.1),AV.val (.int .i64 a.2.2.1),AV.slice false 3 a.2.2.2.1,AV.val (.int .i64 a.2.2.2.2.1),AV.val (.int .i64 a.2.2.2.2.2.1),AV.val (.int .i64 a.2.2.2.2.2.2.1),AV.val (.int .i64 a.2.2.2.2.2.2.2.1),AV.val (.int .i64 a.2.2.2.2.2.2.2.2.1),AV.val (.int .i64 a.2.2.2.2.2.2.2.2.2.1),AV.val (.bool a.2.2.2.2.2.2.2.2.2.2)]]) 120)<|
 Zgi k c (e++(E0++[[AV.val (.int .i64 f.1),AV.val (.int .i64 g.2.1),AV.val (.int .i64 a.1),AV.val (.int .i64 a.2.1),AV.val (.int .i64 a.2.2.1),AV.slice false 3 a.2.2.2.1,AV.val (.int .i64 a.2.2.2.2.1),AV.val (.int .i64 a.2.2.2.2.2.1),AV.val (.int .i64 a.2.2.2.2.2.2.1),AV.val (.int .i64 a.2.2.2.2.2.2.2.1),AV.val (.int .i64 a.2.2.2.2.2.2.2.2.1),AV.val (.int .i64 a.2.2.2.2.2.2.2.2.2.1),AV.val (.bool a.2.2.2.2.2.2.2.2.2.2)]])) (iop .add .i64 d 1)
 else
 some (e)):=by kernel_rfl
theorem Zl8 (a:LL):g88 a =
 (Zgi Z2 a E0 0):=by kernel_rfl
noncomputable def F67:Fn:=⟨62,[4,5],[(4,[(0,.c (.slice 13)),(3,.box hs4),(6,.c (.int .i64))])],[],0,[],[],Tryz.f67,[.c (.slice 13),.agg hs4],[.c (.own false 74),.c (.bool)],[(64,F64.S),(87,F87.S),(21,F21.S),(88,F88.S),(36,F36.S)]⟩
theorem Zpo:F67.S.Ok Tryz.prog 67:=F67.ok Tryz.func67 (by kernel_rfl) ⟨Zog,⟨Zpj,⟨Zox,⟨ZoO,⟨Zk7,trivial⟩⟩⟩⟩⟩
noncomputable def g67 (a:LL) (c d e f h:Int) (j:LL) (k m n o p q:Int) (r:Bool):Option (LL×Bool):=F67.S.g [.l a,.i c,.i d,.i e,.i f,.i h,.l j,.i k,.i m,.i n,.i o,.i p,.i q,.b r]
noncomputable def ZgB (k:Nat) (a:LL) (c d e f g:Int) (h:LL) (j m n o p q:Int) (r:Bool) (s:Int):Option (LL×Bool):=F67.lp [0,1,0,1,0] 0 r0 k [.l a,.i c,.i d,.i e,.i f,.i g,.l h,.i j,.i m,.i n,.i o,.i p,.i q,.b r,.i s]
theorem ZeM (k:Nat) (d:LL) (e f h i j:Int) (l:LL) (m n o p q r:Int) (s:Bool) (c:Int):ZgB (k+1) d e f h i j l m n o p q r s c =
 (if (cop .lss c (List.length d:Int)) then
 Zq d c hs4 fun (g:Qt10)=>
 (g21 h i j g.2.2.1 g.2.2.2.1 g.2.2.2.2.1).bind fun w=>
 if (!w) then
 ZgB k d e f h i j l m n o p q r s (iop .add .i64 c 1)
 else
 Zn ((0:Int)≤c)<|
 Zn ((c:Int)≤(List.length d:Int))<|
 (g88 (List.take (Int.toNat c) d)).bind fun t=>
 (g36 h i j l m n o p q r s).bind fun a=>
 Zn (Z0 t (E0++[[AV.val (.int .i64 e),AV.val (.int .i64 f),AV.val (.int .i64 a.1),AV.val (.int .i64 a.2.1),AV.val (.int .i64 a.2.2.1),AV.slice false 3 a.2.2.2.1,AV.val (.int .i64 a.2.2.2.2.1),AV.val (.int .i64 a.2.2.2.2.2.1),AV.val (.int .i64 a.2.2.2.2.2.2.1),AV.val (.int .i64 a.2.2.2.2.2.2.2.1),AV.val (.int .i64 a.2.2.2.2.2.2.2.2.1),AV.val (.int .i64 a.2.2.2.2.2.2.2.2.2.1),AV.val (.bool a.2.2.2.2.2.2.2.2.2.2)]]) 120)<|
 Zn ((0:Int)≤c)<|
 Zn ((c:Int)≤(List.length d:Int))<|
 (g88 (List.drop (Int.toNat c) d)).bind fun u=>
 Zn (Z0 (t++(E0++[[AV.val (.int .i64 e),AV.val (.int .i64 f),AV.val (.int .i64 a.1),AV.val (.int .i64 a.2.1),AV.val (.int .i64 a.2.2.1),AV.slice false 3 a.2.2.2.1,AV.val (.int .i64 a.2.2.2.2.1),AV.val (.int .i64 a.2.2.2.2.2.1),AV.val (.int .i64 a.2.2.2.2.2.2.1),AV.val (.int .i64 a.2.2.2.2.2.2.2.1),AV.val (.int .i64 a.2.2.2.2.2.2.2.2.1),AV.val (.int .i64 a.2.2.2.2.2.2.2.2.2.1),AV.val (.bool a.2.2.2.2.2.2.2.2.2.2)]])) u 120)<|
 some (((t++(E0++[[AV.val (.int .i64 e),AV.val (.int .i64 f),AV.val (.int .i64 a.1),AV.val (.int .i64 a.2.1),AV.val (.int .i64 a.2.2.1),AV.slice false 3 a.2.2.2.1,AV.val (.int .i64 a.2.2.2.2.1),AV.val (.int .i64 a.2.2.2.2.2.1),AV.val (.int .i64 a.2.2.2.2.2.2.1),AV.val (.int .i64 a.2.2.2.2.2.2.2.1),AV.val (.int .i64 a.2.2.2.2.2.2.2.2.1),AV.val (.int .i64 a.2.2.2.2.2.2.2.2.2.1),AV.val (.bool a.2.2.2.2.2.2.2.2.2.2)]]))++u),true)
 else
 Zn ((0:Int)≤c)<|
 Zn ((c:Int)≤(List.length d:Int))<|
 (g88 (List.take (Int.toNat c) d)).bind fun g=>
 (g36 h i j l m n o p q r s).bind fun b=>
 Zn (Z0 g (E0++[[AV.val (.int .i64 e),AV.val (.int .i64 f),AV.val (.int .i64 b.1),AV.val (.int .i64 b.2.1),AV.val (.int .i64 b.2.2.1),AV.slice false 3 b.2.2.2.1,AV.val (.int .i64 b.2.2.2.2.1),AV.val (.int .i64 b.2.2.2.2.2.1),AV.val (.int .i64 b.2.2.2.2.2.2.1),AV.val (.int .i64 b.2.2.2.2.2.2.2.1),AV.val (.int .i64 b.2.2.2.2.2.2.2.2.1),AV.val (.int .i64 b.2.2.2.2.2.2.2.2.2.1),AV.val (.bool b.2.2.2.2.2.2.2.2.2.2)]]) 120)<|
 Zn ((0:Int)≤c)<|
 Zn ((c:Int)≤(List.length d:Int))<|
 (g88 (List.drop (Int.toNat c) d)).bind fun v=>
 Zn (Z0 (g++(E0++[[AV.val (.int .i64 e),AV.val (.int .i64 f),AV.val (.int .i64 b.1),AV.val (.int .i64 b.2.1),AV.val (.int .i64 b.2.2.1),AV.slice false 3 b.2.2.2.1,AV.val (.int .i64 b.2.2.2.2.1),AV.val (.int .i64 b.2.2.2.2.2.1),AV.val (.int .i64 b.2.2.2.2.2.2.1),AV.val (.int .i64 b.2.2.2.2.2.2.2.1),AV.val (.int .i64 b.2.2.2.2.2.2.2.2.1),AV.val (.int .i64 b.2.2.2.2.2.2.2.2.2.1),AV.val (.bool b.2.2.2.2.2.2.2.2.2.2)]])) v 120)<|
 some (((g++(E0++[[AV.val (.int .i64 e),AV.val (.int .i64 f),AV.val (.int .i64 b.1),AV.val (.int .i64 b.2.1),AV.val (.int .i64 b.2.2.1),AV.slice false 3 b.2.2.2.1,AV.val (.int .i64 b.2.2.2.2.1),AV.val (.int .i64 b.2.2.2.2.2.1),AV.val (.int .i64 b.2.2.2.2.2.2.1),AV.val (.int .i64 b.2.2.2.2.2.2.2.1),AV.val (.int .i64 b.2.2.2.2.2.2.2.2.1),AV.val (.int .i64 b.2.2.2.2.2.2.2.2.2.1),AV.val (.bool b.2.2.2.2.2.2.2.2.2.2)]]))++v),true)):=by kernel_rfl
theorem Zlh (a:LL) (b c d e f:Int) (g:LL) (h i j k l m:Int) (n:Bool):g67 a b c d e f g h i j k l m n =
 ((g64 a d e f).bind fun o=>
 if (cop .geq o 0) then
 some (E0,false)
 else
 (g87 a b c).bind fun p=>
 if (cop .geq p 0) then
 some (E0,false)
 else
 ZgB Z2 a b c d e f g h i j k l m n 0):=by kernel_rfl
noncomputable def F39:Fn:=⟨24,[8],[],[],0,[],[],Tryz.f39,[.c (.slice 13),.c (.int .i64),.c (.int .i64),.agg hs6],[.c (.slice 13)],[(67,F67.S)]⟩
theorem Zo2:F39.S.Ok Tryz.prog 39:=F39.ok Tryz.func39 (by kernel_rfl) ⟨Zpo,trivial⟩
noncomputable def g39 (a:LL) (c d e f h:Int) (j:LL) (k m n o p q:Int) (r:Bool):Option (LL):=F39.S.g [.l a,.i c,.i d,.i e,.i f,.i h,.l j,.i k,.i m,.i n,.i o,.i p,.i q,.b r]
theorem Zmc (a:LL) (b c d e f:Int) (g:LL) (h i j k l m:Int) (n:Bool):g39 a b c d e f g h i j k l m n =
 ((g67 a b c d e f g h i j k l m n).bind fun o=>
 if (!o.2) then
 some (a)
 else
 some (o.1)):=by kernel_rfl
noncomputable def F40:Fn:=⟨11,[4],[],[],0,[],[],Tryz.f40,[.agg hs11,.c (.int .i64)],[.agg hs11],[]⟩
theorem Zo5:F40.S.Ok Tryz.prog 40:=F40.ok Tryz.func40 (by kernel_rfl) trivial
noncomputable def g40 (a c d e f h:Int) (j:Bool) (k:Int):Option (Qt17):=F40.S.g [.i a,.i c,.i d,.i e,.i f,.i h,.b j,.i k]
theorem Zna (a b c d e f:Int) (g:Bool) (h:Int):g40 a b c d e f g h =
 (some (a,b,c,(iop .and .i64 d h),e,f,g)):=by kernel_rfl
noncomputable def F72:Fn:=⟨31,[2],[],[],0,[],[],Tryz.f72,[.agg [.int .i64,.int .i64,.int .i64]],[.c (.bool)],[]⟩
theorem ZoB:F72.S.Ok Tryz.prog 72:=F72.ok Tryz.func72 (by kernel_rfl) trivial
noncomputable def g72 (a b c:Int):Option (Bool):=F72.S.g [.i a,.i b,.i c]
theorem Zl2 (a b c:Int):g72 a b c =
 (if (cop .geq a 0) then
 if (cop .lss a 32) then
 if (cop .geq b 1) then
 if (cop .leq b 1073741824) then
 if (cop .geq c 0) then
 some ((cop .lss c 8))
 else
 some (false)
 else
 some (false)
 else
 some (false)
 else
 some (false)
 else
 some (false)):=by kernel_rfl
noncomputable def F73:Fn:=⟨18,[4],[(2,[(0,.c (.slice 3)),(3,.box [.int .i64,.int .i64,.int .i64]),(5,.c (.int .i64))])],[],0,[],[],Tryz.f73,[.c (.slice 3),.agg [.int .i64,.int .i64,.int .i64]],[.c (.bool)],[]⟩
theorem ZoD:F73.S.Ok Tryz.prog 73:=F73.ok Tryz.func73 (by kernel_rfl) trivial
noncomputable def g73 (a:LL) (b c d:Int):Option (Bool):=F73.S.g [.l a,.i b,.i c,.i d]
noncomputable def Ziv (k:Nat) (a:LL) (b c d e:Int):Option (Bool):=F73.lp [0] 0 r0 k [.l a,.i b,.i c,.i d,.i e]
theorem Zfr (k:Nat) (a:LL) (c d e b:Int):Ziv (k+1) a c d e b =
 (if (cop .lss b (List.length a:Int)) then
 Zq a b [.int .i64,.int .i64,.int .i64] fun (f:Int×Int×Int)=>
 if ((cop .eql f.1 c)&&((cop .eql f.2.1 d)&&((cop .eql f.2.2 e)&&true))) then
 some (true)
 else
 Ziv k a c d e (iop .add .i64 b 1)
 else
 some (false)):=by kernel_rfl
theorem ZmW (a:LL) (b c d:Int):g73 a b c d =
 (Ziv Z2 a b c d 0):=by kernel_rfl
noncomputable def F71:Fn:=⟨53,[2],[(4,[(1,.box hs6),(3,.c (.int .i64))])],[],0,[],[],Tryz.f71,[.agg hs6],[.c (.bool)],[(72,F72.S),(68,F68.S),(73,F73.S)]⟩
theorem ZoL:F71.S.Ok Tryz.prog 71:=F71.ok Tryz.func71 (by kernel_rfl) ⟨ZoB,⟨Zn0,⟨ZoD,trivial⟩⟩⟩
noncomputable def g71 (a c d:Int) (e:LL) (f h j k m n:Int) (o:Bool):Option (Bool):=F71.S.g [.i a,.i c,.i d,.l e,.i f,.i h,.i j,.i k,.i m,.i n,.b o]
noncomputable def Zjt (k:Nat) (a c d:Int) (e:LL) (f g h j m n:Int) (o:Bool) (p:Int):Option (Bool):=F71.lp [0,1,0,1,1,0,1,0] 0 r0 k [.i a,.i c,.i d,.l e,.i f,.i g,.i h,.i j,.i m,.i n,.b o,.i p]
theorem Zew (k:Nat) (e f g:Int) (b:LL) (h i j l m n:Int) (o:Bool) (a:Int):Zjt (k+1) e f g b h i j l m n o a =
 (if (cop .lss a (List.length b:Int)) then
 Zq b a [.int .i64,.int .i64,.int .i64] fun (c:Int×Int×Int)=>
 (g72 c.1 c.2.1 c.2.2).bind fun p=>
 if (!p) then
 some (false)
 else
 Zn ((0:Int)≤a)<|
 Zn ((a:Int)≤(List.length b:Int))<|
 Zq b a [.int .i64,.int .i64,.int .i64] fun (d:Int×Int×Int)=>
 (g73 (List.take (Int.toNat a) b) d.1 d.2.1 d.2.2).bind fun q=>
 if q then
 some (false)
 else
 Zjt k e f g b h i j l m n o (iop .add .i64 a 1)
 else
 some (true)):=by kernel_rfl
theorem ZlZ (a b c:Int) (d:LL) (e f g h i j:Int) (k:Bool):g71 a b c d e f g h i j k =
 ((g72 a b c).bind fun l=>
 if (!l) then
 some (false)
 else
 (g68 e f g h i j k).bind fun m=>
 if (!m) then
 some (false)
 else
 if (cop .gtr (List.length d:Int) 8) then
 some (false)
 else
 (g73 d a b c).bind fun n=>
 if n then
 some (false)
 else
 Zjt Z2 a b c d e f g h i j k 0):=by kernel_rfl
noncomputable def F42:Fn:=⟨49,[6,7],[],[],0,[],[],Tryz.f42,[.agg hs6,.agg [.int .i64,.int .i64,.int .i64],.agg hs11],[.agg hs6,.c (.int .i64)],[(71,F71.S),(72,F72.S),(68,F68.S),(73,F73.S),(62,F62.S)]⟩
theorem Zpn:F42.S.Ok Tryz.prog 42:=F42.ok Tryz.func42 (by kernel_rfl) ⟨ZoL,⟨ZoB,⟨Zn0,⟨ZoD,⟨Zoi,trivial⟩⟩⟩⟩⟩
noncomputable def g42 (a c d:Int) (e:LL) (f h j k m n:Int) (o:Bool) (p q r s t u v w x:Int) (y:Bool):Option (Qt12):=F42.S.g [.i a,.i c,.i d,.l e,.i f,.i h,.i j,.i k,.i m,.i n,.b o,.i p,.i q,.i r,.i s,.i t,.i u,.i v,.i w,.i x,.b y]
theorem Zmm (a b c:Int) (d:LL) (o p q r s t:Int) (u:Bool) (e f g h i j k l m:Int) (n:Bool):g42 a b c d o p q r s t u e f g h i j k l m n =
 ((g71 a b c d o p q r s t u).bind fun w=>
 if (!w) then
 some (0,0,0,E0,0,0,0,0,0,0,false,1)
 else
 (g72 e f g).bind fun x=>
 if (!x) then
 some (0,0,0,E0,0,0,0,0,0,0,false,1)
 else
 (g68 h i j k l m n).bind fun y=>
 if (!y) then
 some (0,0,0,E0,0,0,0,0,0,0,false,1)
 else
 if ((cop .eql e a)&&((cop .eql f b)&&((cop .eql g c)&&true))) then
 some (0,0,0,E0,0,0,0,0,0,0,false,1)
 else
 (g73 d e f g).bind fun z=>
 if z then
 some (0,0,0,E0,0,0,0,0,0,0,false,1)
 else
 if (cop .eql (List.length d:Int) 8) then
 some (0,0,0,E0,0,0,0,0,0,0,false,9)
 else
 (g62 d).bind fun v=>
 Zn (Z0 v (E0++[[AV.val (.int .i64 a),AV.val (.int .i64 b),AV.val (.int .i64 c)]]) 24)<|
 some (e,f,g,(v++(E0++[[AV.val (.int .i64 a),AV.val (.int .i64 b),AV.val (.int .i64 c)]])),h,i,j,k,l,m,n,0)):=by kernel_rfl
noncomputable def F22:Fn:=⟨146,[6],[(18,[(0,.c (.slice 13)),(2,.c (.int .i64)),(7,.c (.int .i64)),(8,.c (.int .i64)),(10,.box hs6),(11,.c (.slice 7)),(16,.c (.int .i64))])],[],0,[],[],Tryz.f22,[.c (.slice 13),.agg hs7,.c (.int .i64)],[.c (.slice 13)],[(6,F6.S),(37,F37.S),(38,F38.S),(39,F39.S),(40,F40.S),(41,F41.S),(42,F42.S)]⟩
theorem Zo1:F22.S.Ok Tryz.prog 22:=F22.ok Tryz.func22 (by kernel_rfl) ⟨ok6,⟨Zo8,⟨Zpt,⟨Zo2,⟨Zo5,⟨Zot,⟨Zpn,trivial⟩⟩⟩⟩⟩⟩⟩
noncomputable def g22 (a:LL) (c:Bool) (d e f h j k m n:Int) (o:Bool) (p:Int):Option (LL):=F22.S.g [.l a,.b c,.i d,.i e,.i f,.i h,.i j,.i k,.i m,.i n,.b o,.i p]
noncomputable def ZdG (k:Nat) (a:LL) (c d e f g h:Int) (j:LL) (m n o p q r:Int) (s:Bool) (t:LL) (u:Int):Option (LL):=F22.lp [2,1,1,5,8,1,0,1,0] 0 r0 k [.l a,.i c,.i d,.i e,.i f,.i g,.i h,.l j,.i m,.i n,.i o,.i p,.i q,.i r,.b s,.l t,.i u]
theorem Zfl (k:Nat) (d:LL) (g e h i j l:Int) (m:LL) (n o p q r s:Int) (t:Bool) (f:LL) (c:Int):ZdG (k+1) d g e h i j l m n o p q r s t f c =
 (if (cop .lss c (List.length f:Int)) then
 Zq f c hs11 fun (b:Qt17)=>
 (g42 i j l m n o p q r s t e g c b.1 b.2.1 b.2.2.1 b.2.2.2.1 b.2.2.2.2.1 b.2.2.2.2.2.1 b.2.2.2.2.2.2).bind fun a=>
 if (cop .neq a.2.2.2.2.2.2.2.2.2.2.2 0) then
 some (d)
 else
 (g39 d e (iop .add .i64 h c) a.1 a.2.1 a.2.2.1 a.2.2.2.1 a.2.2.2.2.1 a.2.2.2.2.2.1 a.2.2.2.2.2.2.1 a.2.2.2.2.2.2.2.1 a.2.2.2.2.2.2.2.2.1 a.2.2.2.2.2.2.2.2.2.1 a.2.2.2.2.2.2.2.2.2.2.1).bind fun u=>
 ZdG k u g e h i j l m n o p q r s t f (iop .add .i64 c 1)
 else
 some (d)):=by kernel_rfl
theorem ZlK (c:LL) (o:Bool) (p q r s g h t j:Int) (u:Bool) (f:Int):g22 c o p q r s g h t j u f =
 ((g6 q 4).bind fun e=>
 (g6 r 8).bind fun i=>
 if o then
 (g37 g h).bind fun b=>
 (g38 c 0 0 0 (E0++[[AV.val (.int .i64 b.1),AV.val (.int .i64 b.2.1),AV.val (.int .i64 b.2.2.1),AV.val (.int .i64 b.2.2.2.1),AV.val (.int .i64 b.2.2.2.2.1),AV.val (.int .i64 b.2.2.2.2.2.1),AV.val (.bool b.2.2.2.2.2.2)]])).bind fun k=>
 if k then
 some (c)
 else
 (g39 c e i e f 0 E0 b.1 b.2.1 b.2.2.1 b.2.2.2.1 b.2.2.2.2.1 b.2.2.2.2.2.1 b.2.2.2.2.2.2).bind fun l=>
 some (l)
 else
 if (cop .eql (List.length c:Int) 0) then
 (g37 g h).bind fun b=>
 (g38 c 0 0 0 (E0++[[AV.val (.int .i64 b.1),AV.val (.int .i64 b.2.1),AV.val (.int .i64 b.2.2.1),AV.val (.int .i64 b.2.2.2.1),AV.val (.int .i64 b.2.2.2.2.1),AV.val (.int .i64 b.2.2.2.2.2.1),AV.val (.bool b.2.2.2.2.2.2)]])).bind fun k=>
 if k then
 some (c)
 else
 (g39 c e i e f 0 E0 b.1 b.2.1 b.2.2.1 b.2.2.2.1 b.2.2.2.2.1 b.2.2.2.2.2.1 b.2.2.2.2.2.2).bind fun l=>
 some (l)
 else
 (g6 p (List.length c:Int)).bind fun b=>
 Zq c b hs4 fun (a:Qt10)=>
 (g6 j 8).bind fun w=>
 (g40 a.2.2.2.2.2.2.1 a.2.2.2.2.2.2.2.1 a.2.2.2.2.2.2.2.2.1 a.2.2.2.2.2.2.2.2.2.1 a.2.2.2.2.2.2.2.2.2.2.1 a.2.2.2.2.2.2.2.2.2.2.2.1 (d4 (d8 a)) w).bind fun d=>
 if (!u) then
 (g6 s 6).bind fun v=>
 (g6 h 10).bind fun x=>
 Zq ((((((E0++[[AV.val (.int .i64 (iop .add .i64 6 x))]])++[[AV.val (.int .i64 12)]])++[[AV.val (.int .i64 12)]])++[[AV.val (.int .i64 6)]])++[[AV.val (.int .i64 10)]])++[[AV.val (.int .i64 16)]]) (iop .sub .i64 (iop .add .i64 1 v) 1) [.int .i64] fun (m:Int)=>
 (g6 j 2).bind fun y=>
 (g6 g 8).bind fun z=>
 Zn ((0:Int)≤(IntKind.wrap .u64 m))<|
 (g6 t 3).bind fun A=>
 (g41 a.2.2.2.2.2.2.1 a.2.2.2.2.2.2.2.1 a.2.2.2.2.2.2.2.2.1 a.2.2.2.2.2.2.2.2.2.1 a.2.2.2.2.2.2.2.2.2.2.1 a.2.2.2.2.2.2.2.2.2.2.2.1 (d4 (d8 a)) (iop .add .i64 1 v) m y 32 (iop .shl .i64 z (IntKind.wrap .u64 m)) (iop .add .i64 1 A)).bind fun n=>
 if (cop .neq n.2 0) then
 some (c)
 else
 (g38 c a.2.2.1 a.2.2.2.1 a.2.2.2.2.1 n.1).bind fun C=>
 if C then
 some (c)
 else
 ZdG Z2 c f e i a.2.2.1 a.2.2.2.1 a.2.2.2.2.1 a.2.2.2.2.2.1 a.2.2.2.2.2.2.1 a.2.2.2.2.2.2.2.1 a.2.2.2.2.2.2.2.2.1 a.2.2.2.2.2.2.2.2.2.1 a.2.2.2.2.2.2.2.2.2.2.1 a.2.2.2.2.2.2.2.2.2.2.2.1 (d4 (d8 a)) n.1 0
 else
 ZdG Z2 c f e i a.2.2.1 a.2.2.2.1 a.2.2.2.2.1 a.2.2.2.2.2.1 a.2.2.2.2.2.2.1 a.2.2.2.2.2.2.2.1 a.2.2.2.2.2.2.2.2.1 a.2.2.2.2.2.2.2.2.2.1 a.2.2.2.2.2.2.2.2.2.2.1 a.2.2.2.2.2.2.2.2.2.2.2.1 (d4 (d8 a)) (E0++[[AV.val (.int .i64 d.1),AV.val (.int .i64 d.2.1),AV.val (.int .i64 d.2.2.1),AV.val (.int .i64 d.2.2.2.1),AV.val (.int .i64 d.2.2.2.2.1),AV.val (.int .i64 d.2.2.2.2.2.1),AV.val (.bool d.2.2.2.2.2.2)]]) 0):=by kernel_rfl
noncomputable def F8:Fn:=⟨29,[2],[(3,[(0,.c (.slice 10)),(3,.c (.slice 13)),(4,.c (.int .i64))])],[],0,[],[],Tryz.f8,[.c (.slice 10)],[.c (.slice 13)],[(22,F22.S)]⟩
theorem ok8:F8.S.Ok Tryz.prog 8:=F8.ok Tryz.func8 (by kernel_rfl) ⟨Zo1,trivial⟩
noncomputable def g8 (a:LL):Option (LL):=F8.S.g [.l a]
noncomputable def Zns (k:Nat) (a b:LL) (c:Int):Option (LL):=F8.lp [0] 0 r0 k [.l a,.l b,.i c]
theorem Zio (k:Nat) (d b:LL) (c:Int):Zns (k+1) d b c =
 (if (cop .lss c (List.length d:Int)) then
 if (cop .lss c 40) then
 if (cop .lss (List.length b:Int) 24) then
 Zq d c hs7 fun (a:Bool×Int×Int×Int×Int×Int×Int×Int×Int×Bool)=>
 (g22 b a.1 a.2.1 a.2.2.1 a.2.2.2.1 a.2.2.2.2.1 a.2.2.2.2.2.1 a.2.2.2.2.2.2.1 a.2.2.2.2.2.2.2.1 a.2.2.2.2.2.2.2.2.1 a.2.2.2.2.2.2.2.2.2 (iop .add .i64 c 1)).bind fun e=>
 Zns k d e (iop .add .i64 c 1)
 else
 some (b)
 else
 some (b)
 else
 some (b)):=by kernel_rfl
theorem ZnR (a:LL):g8 a =
 (Zns Z2 a E0 0):=by kernel_rfl
noncomputable def F23:Fn:=⟨32,[4],[],[],0,[],[],Tryz.f23,[.c (.int .i64),.c (.int .i64)],[.c (.int .i64)],[(6,F6.S)]⟩
theorem ZoQ:F23.S.Ok Tryz.prog 23:=F23.ok Tryz.func23 (by kernel_rfl) ⟨ok6,trivial⟩
noncomputable def g23 (a b:Int):Option (Int):=F23.S.g [.i a,.i b]
theorem Zly (c a:Int):g23 c a =
 ((g6 a 3).bind fun d=>
 Zn ((0:Int)≤12)<|
 Zn ((3:Int)≠0)<|
 (g6 (iop .quo .i64 a 3) 4096).bind fun e=>
 if (cop .eql c 32) then
 Zn ((9:Int)≠0)<|
 (g6 (iop .quo .i64 a 9) 3).bind fun b=>
 Zn ((0:Int)≤22)<|
 some ((iop .add .i64 (iop .add .i64 (iop .shl .i64 d 12) e) (iop .shl .i64 b 22)))
 else
 Zn ((9:Int)≠0)<|
 (g6 (iop .quo .i64 a 9) 3).bind fun b=>
 Zn ((0:Int)≤21)<|
 Zn ((27:Int)≠0)<|
 (g6 (iop .quo .i64 a 27) 3).bind fun f=>
 Zn ((0:Int)≤30)<|
 some ((iop .add .i64 (iop .add .i64 (iop .add .i64 (iop .shl .i64 d 12) e) (iop .shl .i64 b 21)) (iop .shl .i64 f 30)))):=by kernel_rfl
noncomputable def F9:Fn:=⟨128,[6],[],[],0,[],[],Tryz.f9,[.agg [.slice 1,.int .i64,.int .i64,.slice 3,.slice 1],.c (.int .i64),.agg hs8],[.agg hs5],[(6,F6.S),(23,F23.S)]⟩
theorem ok9:F9.S.Ok Tryz.prog 9:=F9.ok Tryz.func9 (by kernel_rfl) ⟨ok6,⟨ZoQ,trivial⟩⟩
noncomputable def g9 (a:LL) (b c:Int) (d e:LL) (f h j k m n o p q r:Int):Option (Qt13):=F9.S.g [.l a,.i b,.i c,.l d,.l e,.i f,.i h,.i j,.i k,.i m,.i n,.i o,.i p,.i q,.i r]
theorem Zn8 (j:LL) (x l:Int) (m y:LL) (r s t u v n o k e w:Int):g9 j x l m y r s t u v n o k e w =
 ((g6 s 10).bind fun a=>
 (g6 t l).bind fun c=>
 (g6 u l).bind fun d=>
 (g6 n 8).bind fun f=>
 if (cop .eql (iop .add .i64 1 a) 1) then
 (g6 o (List.length m:Int)).bind fun b=>
 Zq m b [.int .i64,.int .i64,.bool] fun (g:Int×Int×Bool)=>
 (g6 k 3).bind fun h=>
 (g6 e 4).bind fun p=>
 Zn ((0:Int)≤(IntKind.wrap .u64 (iop .add .i64 13 h)))<|
 some ((iop .add .i64 1 a),c,d,0,f,0,(iop .add .i64 13 h),0,(iop .add .i64 g.1 (iop .shl .i64 p (IntKind.wrap .u64 (iop .add .i64 13 h)))),0,0,0)
 else
 if (cop .eql (iop .add .i64 1 a) 2) then
 (g6 o 6).bind fun b=>
 (g6 k 3).bind fun g=>
 Zq ((((((E0++[[AV.val (.int .i64 (iop .add .i64 12 g))]])++[[AV.val (.int .i64 12)]])++[[AV.val (.int .i64 12)]])++[[AV.val (.int .i64 6)]])++[[AV.val (.int .i64 10)]])++[[AV.val (.int .i64 16)]]) (iop .sub .i64 (iop .add .i64 1 b) 1) [.int .i64] fun (i:Int)=>
 (g6 k 3).bind fun q=>
 (g6 w 3).bind fun h=>
 (g6 e 6).bind fun p=>
 Zn ((0:Int)≤(IntKind.wrap .u64 i))<|
 some ((iop .add .i64 1 a),c,d,0,f,(iop .add .i64 1 b),i,q,(iop .shl .i64 p (IntKind.wrap .u64 i)),(iop .add .i64 1 h),0,0)
 else
 if (cop .eql (iop .add .i64 1 a) 4) then
 (g6 v (List.length j:Int)).bind fun b=>
 some ((iop .add .i64 1 a),c,d,b,f,0,0,0,0,0,0,0)
 else
 if (cop .eql (iop .add .i64 1 a) 8) then
 (g6 e 3).bind fun b=>
 some ((iop .add .i64 1 a),c,d,0,f,0,0,0,0,0,b,0)
 else
 if (cop .eql (iop .add .i64 1 a) 9) then
 (g6 e 3).bind fun b=>
 some ((iop .add .i64 1 a),c,d,0,f,0,0,0,0,0,b,0)
 else
 if (cop .eql (iop .add .i64 1 a) 10) then
 (g6 n 4).bind fun b=>
 (g6 r (List.length j:Int)).bind fun g=>
 Zq j g [.int .i64] fun (i:Int)=>
 (g23 i e).bind fun q=>
 some ((iop .add .i64 1 a),c,d,0,b,0,0,0,0,0,0,q)
 else
 some ((iop .add .i64 1 a),c,d,0,f,0,0,0,0,0,0,0)):=by kernel_rfl
noncomputable def F12:Fn:=⟨3,[0],[],[],0,[],[],Tryz.f12,[],[.c (.own false 43)],[]⟩
theorem Zpx:F12.S.Ok Tryz.prog 12:=F12.ok Tryz.func12 (by kernel_rfl) trivial
noncomputable def g12:Option (LL):=F12.S.g []
theorem Zm0:g12 =
 (some ((E0++[[AV.val (.int .i64 262144),AV.val (.int .i64 16),AV.val (.bool false)]]))):=by kernel_rfl
noncomputable def F55:Fn:=⟨32,[2],[],[],0,[],[],Tryz.f55,[.agg [.int .i64,.int .i64]],[.c (.bool)],[]⟩
theorem Znn:F55.S.Ok Tryz.prog 55:=F55.ok Tryz.func55 (by kernel_rfl) trivial
noncomputable def g55 (a b:Int):Option (Bool):=F55.S.g [.i a,.i b]
theorem Zlq (b a:Int):g55 b a =
 (if (cop .lss a 6) then
 some (false)
 else
 if (cop .gtr a 40) then
 some (false)
 else
 if (cop .lss b 0) then
 some (false)
 else
 Zn ((0:Int)≤a)<|
 Zn (((iop .shl .i64 1 a):Int)≠0)<|
 if (cop .eql (iop .rem .i64 b (iop .shl .i64 1 a)) 0) then
 some ((cop .leq b (iop .sub .i64 1099511627776 (iop .shl .i64 1 a))))
 else
 some (false)):=by kernel_rfl
noncomputable def F61:Fn:=⟨12,[2],[],[],0,[],[],Tryz.f61,[.agg [.int .i64,.int .i64]],[.c (.int .i64)],[(55,F55.S)]⟩
theorem Zpq:F61.S.Ok Tryz.prog 61:=F61.ok Tryz.func61 (by kernel_rfl) ⟨Znn,trivial⟩
noncomputable def g61 (a b:Int):Option (Int):=F61.S.g [.i a,.i b]
theorem Zlt (b a:Int):g61 b a =
 ((g55 b a).bind fun c=>
 if (!c) then
 some (0)
 else
 Zn ((0:Int)≤a)<|
 some ((iop .add .i64 b (iop .shl .i64 1 a)))):=by kernel_rfl
noncomputable def F35:Fn:=⟨25,[4],[],[],0,[],[],Tryz.f35,[.agg [.int .i64,.int .i64],.agg [.int .i64,.int .i64]],[.c (.bool)],[(55,F55.S),(61,F61.S)]⟩
theorem ZoK:F35.S.Ok Tryz.prog 35:=F35.ok Tryz.func35 (by kernel_rfl) ⟨Znn,⟨Zpq,trivial⟩⟩
noncomputable def g35 (a b c d:Int):Option (Bool):=F35.S.g [.i a,.i b,.i c,.i d]
theorem Zmg (a c b d:Int):g35 a c b d =
 ((g55 a c).bind fun e=>
 if e then
 (g55 b d).bind fun f=>
 if f then
 if (cop .leq a b) then
 (g61 b d).bind fun g=>
 (g61 a c).bind fun h=>
 some ((cop .leq g h))
 else
 some (false)
 else
 some (false)
 else
 some (false)):=by kernel_rfl
noncomputable def F13:Fn:=⟨24,[4,5],[(2,[(3,.box [.int .i64,.int .i64]),(8,.c (.slice 3)),(9,.c (.int .i64)),(10,.c (.int .i64))])],[],0,[],[],Tryz.f13,[.c (.slice 3),.agg [.int .i64,.int .i64]],[.c (.int .i64),.c (.bool)],[(35,F35.S)]⟩
theorem ZnF:F13.S.Ok Tryz.prog 13:=F13.ok Tryz.func13 (by kernel_rfl) ⟨ZoK,trivial⟩
noncomputable def g13 (a:LL) (b c:Int):Option (Int×Bool):=F13.S.g [.l a,.i b,.i c]
noncomputable def Zgg (k:Nat) (a b:Int) (c:LL) (d e:Int):Option (Int×Bool):=F13.lp [0] 0 r0 k [.i a,.i b,.l c,.i d,.i e]
theorem Zfc (k:Nat) (b c:Int) (d:LL) (e a:Int):Zgg (k+1) b c d e a =
 (if (cop .lss a e) then
 Zq d a [.int .i64,.int .i64,.bool] fun (f:Int×Int×Bool)=>
 (g35 f.1 f.2.1 b c).bind fun g=>
 if g then
 some (a,true)
 else
 Zgg k b c d e (iop .add .i64 a 1)
 else
 some (0,false)):=by kernel_rfl
theorem ZmE (a:LL) (b c:Int):g13 a b c =
 (Zgg Z2 b c a (List.length a:Int) 0):=by kernel_rfl
end Go.Proofs.YtmjkdbpffdampaaGreat
