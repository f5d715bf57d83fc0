/- Functions of the program, as what they compute. -/
import Derived.Test.YtmjkdbpffdampaaFAa
namespace Go.Proofs.Ytmjkdbpffdampaa
open Go Go.AM
set_option linter.unusedVariables false
set_option maxRecDepth 100000
noncomputable def F6:Fn:=⟨16,[4],[],[],0,[],[],Try.f6,[.c (.int .i64),.c (.int .i64)],[.c (.int .i64)],[]⟩
theorem ok6:F6.S.Ok Try.prog 6:=F6.ok Try.func6 (by kernel_rfl) trivial
noncomputable def g6 (a b:Int):Option (Int):=F6.S.g [.i a,.i b]
theorem Zn0 (b a:Int):g6 b a =
 (if (cop .lss a 1) then
 some (0)
 else
 Zj ((a:Int)≠0)<|
 if (cop .lss (iop .rem .i64 b a) 0) then
 some ((iop .add .i64 (iop .rem .i64 b a) a))
 else
 some ((iop .rem .i64 b a))):=by kernel_rfl
noncomputable def F23:Fn:=⟨17,[4],[],[],0,[],[],Try.f23,[.c (.slice 1),.c (.int .i64)],[.c (.int .i64)],[]⟩
theorem Zon:F23.S.Ok Try.prog 23:=F23.ok Try.func23 (by kernel_rfl) trivial
noncomputable def g23 (a:LL) (b:Int):Option (Int):=F23.S.g [.l a,.i b]
theorem Zj3 (b:LL) (a:Int):g23 b a =
 (if (cop .lss a 0) then
 some (0)
 else
 if (cop .geq a (List.length b:Int)) then
 some (0)
 else
 Zq b a [.int .i64] fun (c:Int)=>
 some (c)):=by kernel_rfl
noncomputable def F30:Fn:=⟨94,[2],[(5,[(0,.c (.slice 1)),(2,.box [.slice 1,.int .i64,.int .i64,.slice 3,.slice 1]),(3,.c (.int .i64)),(4,.box [.slice 1,.int .i64,.int .i64,.slice 3,.slice 1]),(5,.c (.int .i64)),(6,.c (.int .i64))]),(10,[(0,.c (.slice 1)),(2,.box [.slice 1,.int .i64,.int .i64,.slice 3,.slice 1]),(4,.box [.slice 1,.int .i64,.int .i64,.slice 3,.slice 1]),(5,.c (.int .i64)),(8,.c (.int .i64))])],[],0,[],[],Try.f30,[.c (.slice 1)],[.agg [.slice 1,.int .i64,.int .i64,.slice 3,.slice 1]],[(23,F23.S),(6,F6.S)]⟩
theorem Zo8:F30.S.Ok Try.prog 30:=F30.ok Try.func30 (by kernel_rfl) ⟨Zon,⟨ok6,trivial⟩⟩
noncomputable def g30 (a:LL):Option (LL×Int×Int×LL×LL):=F30.S.g [.l a]
noncomputable def Zhq (k:Nat) (a b:LL) (c d:Int) (e f g:LL) (h j:Int) (m n:LL) (o p:Int):Option (LL×Int×Int×LL×LL):=F30.lp [9,1,0] 0 r0 k [.l a,.l b,.i c,.i d,.l e,.l f,.l g,.i h,.i j,.l m,.l n,.i o,.i p]
theorem ZiK (k:Nat) (b i:LL) (j l:Int) (m n f:LL) (e g:Int) (c d:LL) (h a:Int):Zhq (k+1) b i j l m n f e g c d h a =
 (if (cop .lss a h) then
 Zj ((0:Int)≤18)<|
 (g23 b (iop .add .i64 8 a)).bind fun r=>
 (g6 r 3).bind fun o=>
 (g23 b (iop .add .i64 11 a)).bind fun s=>
 (g6 s 5).bind fun p=>
 Zj (Jr E0 c 24)<|
 Zj (Jr c (E0++[[AV.val (.int .i64 (iop .shl .i64 (iop .add .i64 a 1) 18)),AV.val (.int .i64 (iop .add .i64 15 o)),AV.val (.bool (cop .eql p 4))]]) 24)<|
 Zj (Jr E0 d 8)<|
 (g23 b (iop .add .i64 14 a)).bind fun t=>
 (g6 t e).bind fun q=>
 Zj (Jr d (E0++[[AV.val (.int .i64 q)]]) 8)<|
 Zhq k b i j l m n f e g (c++(E0++[[AV.val (.int .i64 (iop .shl .i64 (iop .add .i64 a 1) 18)),AV.val (.int .i64 (iop .add .i64 15 o)),AV.val (.bool (cop .eql p 4))]])) (d++(E0++[[AV.val (.int .i64 q)]])) h (iop .add .i64 a 1)
 else
 some (f,e,g,c,d)):=by kernel_rfl
noncomputable def Ziv (k:Nat) (a b:LL) (c d:Int) (e f:LL) (g:Int) (h:LL) (j m:Int) (n o:LL) (p q:Int):Option (LL×Int×Int×LL×LL):=F30.lp [9] 0 r0 k [.l a,.l b,.i c,.i d,.l e,.l f,.i g,.l h,.i j,.i m,.l n,.l o,.i p,.i q]
theorem Zjz (k:Nat) (b d:LL) (e f:Int) (g h:LL) (i:Int) (a:LL) (j l:Int) (m n:LL) (o c:Int):Ziv (k+1) b d e f g h i a j l m n o c =
 (if (cop .lss c i) then
 Zj (Jr E0 a 8)<|
 (g23 b (iop .add .i64 4 c)).bind fun q=>
 (g6 q 2).bind fun r=>
 Zq ((E0++[[AV.val (.int .i64 32)]])++[[AV.val (.int .i64 39)]]) r [.int .i64] fun (p:Int)=>
 Zj (Jr a (E0++[[AV.val (.int .i64 p)]]) 8)<|
 Ziv k b d e f g h i (a++(E0++[[AV.val (.int .i64 p)]])) j l m n o (iop .add .i64 c 1)
 else
 Zhq Z6 b d e f g h a j l m n o 0):=by kernel_rfl
theorem ZlT (a:LL):g30 a =
 ((g23 a 0).bind fun c=>
 (g6 c 4).bind fun b=>
 (g23 a 1).bind fun d=>
 (g6 d (iop .add .i64 1 b)).bind fun e=>
 (g23 a 2).bind fun f=>
 (g6 f 7).bind fun g=>
 (g23 a 3).bind fun h=>
 (g6 h 3).bind fun i=>
 Ziv Z6 a E0 0 0 E0 E0 (iop .add .i64 1 b) E0 (iop .add .i64 1 e) (iop .add .i64 4 g) E0 E0 (iop .add .i64 1 i) 0):=by kernel_rfl
noncomputable def F9:Fn:=⟨11,[2],[],[],0,[],[],Try.f9,[.c (.slice 1)],[.agg [.slice 1,.int .i64,.int .i64,.slice 3,.slice 1]],[(30,F30.S)]⟩
theorem ok9:F9.S.Ok Try.prog 9:=F9.ok Try.func9 (by kernel_rfl) ⟨Zo8,trivial⟩
noncomputable def g9 (a:LL):Option (LL×Int×Int×LL×LL):=F9.S.g [.l a]
theorem Zoi (b:LL):g9 b =
 ((g30 b).bind fun a=>
 some (a.1,(List.length a.1:Int),a.2.2.1,a.2.2.2.1,a.2.2.2.2)):=by kernel_rfl
noncomputable def F62:Fn:=⟨5,[2],[],[],0,[],[],Try.f62,[.c (.slice 3)],[.c (.own false 48)],[]⟩
theorem Zoo:F62.S.Ok Try.prog 62:=F62.ok Try.func62 (by kernel_rfl) trivial
noncomputable def g62 (a:LL):Option (LL):=F62.S.g [.l a]
theorem Zl0 (a:LL):g62 a =
 (Zj (Jr E0 a 24)<|
 some (a)):=by kernel_rfl
noncomputable def F39:Fn:=⟨8,[2],[],[],0,[],[],Try.f39,[.agg hs6],[.agg hs6],[(62,F62.S)]⟩
theorem ZlW:F39.S.Ok Try.prog 39:=F39.ok Try.func39 (by kernel_rfl) ⟨Zoo,trivial⟩
noncomputable def g39 (a c d:Int) (e:LL) (f h j k m n:Int) (o:Bool):Option (Qt16):=F39.S.g [.i a,.i c,.i d,.l e,.i f,.i h,.i j,.i k,.i m,.i n,.b o]
theorem ZlV (a b c:Int) (d:LL) (e f g h i j:Int) (k:Bool):g39 a b c d e f g h i j k =
 ((g62 d).bind fun l=>
 some (a,b,c,l,e,f,g,h,i,j,k)):=by kernel_rfl
noncomputable def F20:Fn:=⟨44,[4],[(3,[(0,.c (.slice 13)),(1,.c (.int .i64)),(5,.c (.own true 62)),(6,.c (.int .i64))])],[],0,[4],[],Try.f20,[.c (.slice 13),.c (.int .i64)],[.c (.own true 62)],[(39,F39.S)]⟩
theorem ZoM:F20.S.Ok Try.prog 20:=F20.ok Try.func20 (by kernel_rfl) ⟨ZlW,trivial⟩
noncomputable def g20 (a:LL) (b:Int):Option (LL):=F20.S.g [.l a,.i b]
noncomputable def ZcB (k:Nat) (a:LL) (b:Int) (c:LL) (d:Int):Option (LL):=F20.lp [4] 0 r0 k [.l a,.i b,.l c,.i d]
theorem Ze4 (k:Nat) (c:LL) (f:Int) (e:LL) (d:Int):ZcB (k+1) c f e d =
 (if (cop .lss d (List.length c:Int)) then
 Zq c d hs4 fun (h:Qt10)=>
 if (cop .eql h.1 f) then
 Zq c d hs4 fun (i:Qt10)=>
 if (cop .lss i.2.1 12) then
 Zq c d hs4 fun (g:Qt10)=>
 Zq c d hs4 fun (a:Qt10)=>
 (g39 a.2.2.1 a.2.2.2.1 a.2.2.2.2.1 a.2.2.2.2.2.1 a.2.2.2.2.2.2.1 a.2.2.2.2.2.2.2.1 a.2.2.2.2.2.2.2.2.1 a.2.2.2.2.2.2.2.2.2.1 a.2.2.2.2.2.2.2.2.2.2.1 a.2.2.2.2.2.2.2.2.2.2.2.1 (d4 (d8 a))).bind fun b=>
 Zj ((0:Int)≤g.2.1)<|
 Zj ((g.2.1:Int) < (List.length e:Int))<|
 Zj ((0:Int)≤g.2.1)<|
 Zj ((g.2.1:Int) < (List.length e:Int))<|
 ZcB k c f (Zy e (Int.toNat g.2.1) 0 [AV.val (.int .i64 b.1),AV.val (.int .i64 b.2.1),AV.val (.int .i64 b.2.2.1),AV.slice false 3 b.2.2.2.1,AV.val (.int .i64 b.2.2.2.2.1),AV.val (.int .i64 b.2.2.2.2.2.1),AV.val (.int .i64 b.2.2.2.2.2.2.1),AV.val (.int .i64 b.2.2.2.2.2.2.2.1),AV.val (.int .i64 b.2.2.2.2.2.2.2.2.1),AV.val (.int .i64 b.2.2.2.2.2.2.2.2.2.1),AV.val (.bool b.2.2.2.2.2.2.2.2.2.2)]) (iop .add .i64 d 1)
 else
 ZcB k c f e (iop .add .i64 d 1)
 else
 ZcB k c f e (iop .add .i64 d 1)
 else
 some (e)):=by kernel_rfl
theorem ZmB (a:LL) (b:Int):g20 a b =
 (Zj (ZkI 12 136)<|
 Zj ((12:Int)≤12)<|
 Zj ((12:Int)≤12)<|
 ZcB Z6 a b (List.replicate (Int.toNat 12) [AV.val (.int .i64 0),AV.val (.int .i64 0),AV.val (.int .i64 0),AV.slice false 3 E0,AV.val (.int .i64 0),AV.val (.int .i64 0),AV.val (.int .i64 0),AV.val (.int .i64 0),AV.val (.int .i64 0),AV.val (.int .i64 0),AV.val (.bool false),AV.val (.int .i64 0),AV.val (.int .i64 0),AV.val (.int .i64 0),AV.val (.int .i64 0)]) 0):=by kernel_rfl
noncomputable def F24:Fn:=⟨8,[2],[],[],0,[],[],Try.f24,[.agg hs3],[.c (.bool)],[]⟩
theorem ZoU:F24.S.Ok Try.prog 24:=F24.ok Try.func24 (by kernel_rfl) trivial
noncomputable def g24 (a c d:Int) (e:LL) (f h j k m n:Int) (o:Bool) (p q r s:Int):Option (Bool):=F24.S.g [.i a,.i c,.i d,.l e,.i f,.i h,.i j,.i k,.i m,.i n,.b o,.i p,.i q,.i r,.i s]
theorem ZlE (a b c:Int) (d:LL) (e f g h i j:Int) (k:Bool) (l m n o:Int):g24 a b c d e f g h i j k l m n o =
 (some (((cop .eql a 0)&&((cop .eql b 0)&&((cop .eql c 0)&&true))))):=by kernel_rfl
noncomputable def F25:Fn:=⟨10,[2],[],[],0,[],[],Try.f25,[.c (.int .i64)],[.agg [.int .i64,.int .i64,.int .i64]],[(6,F6.S)]⟩
theorem ZoP:F25.S.Ok Try.prog 25:=F25.ok Try.func25 (by kernel_rfl) ⟨ok6,trivial⟩
noncomputable def g25 (a:Int):Option (Int×Int×Int):=F25.S.g [.i a]
theorem ZmM (a:Int):g25 a =
 ((g6 a 4).bind fun b=>
 Zj ((4:Int)≠0)<|
 (g6 (iop .quo .i64 a 4) 20).bind fun c=>
 some (b,(iop .add .i64 1 c),0)):=by kernel_rfl
noncomputable def F27:Fn:=⟨12,[4],[],[],0,[],[],Try.f27,[.c (.slice 1),.c (.int .i64)],[.c (.slice 1)],[]⟩
theorem Zpn:F27.S.Ok Try.prog 27:=F27.ok Try.func27 (by kernel_rfl) trivial
noncomputable def g27 (a:LL) (b:Int):Option (LL):=F27.S.g [.l a,.i b]
theorem ZlR (b:LL) (a:Int):g27 b a =
 (if (cop .geq a (List.length b:Int)) then
 some (E0)
 else
 Zj ((0:Int)≤a)<|
 Zj ((a:Int)≤(List.length b:Int))<|
 some ((List.drop (Int.toNat a) b))):=by kernel_rfl
noncomputable def F26:Fn:=⟨69,[4],[],[],0,[],[],Try.f26,[.c (.slice 1),.agg hs6],[.agg hs0],[(23,F23.S),(25,F25.S),(6,F6.S),(39,F39.S)]⟩
theorem ZoR:F26.S.Ok Try.prog 26:=F26.ok Try.func26 (by kernel_rfl) ⟨Zon,⟨ZoP,⟨ok6,⟨ZlW,trivial⟩⟩⟩⟩
noncomputable def g26 (a:LL) (c d e:Int) (f:LL) (h j k m n o:Int) (p:Bool):Option (Qt2):=F26.S.g [.l a,.i c,.i d,.i e,.l f,.i h,.i j,.i k,.i m,.i n,.i o,.b p]
theorem Zmz (a:LL) (e f g:Int) (h:LL) (i j k l m n:Int) (o:Bool):g26 a e f g h i j k l m n o =
 ((g23 a 0).bind fun D=>
 (g25 D).bind fun c=>
 (g23 a 1).bind fun E=>
 (g6 E 3).bind fun p=>
 (g23 a 2).bind fun G=>
 (g6 G 2).bind fun H=>
 Zq ((E0++[[AV.val (.int .i64 32)]])++[[AV.val (.int .i64 39)]]) H [.int .i64] fun (q:Int)=>
 (g39 e f g h i j k l m n o).bind fun b=>
 (g23 a 3).bind fun J=>
 (g6 J 6).bind fun d=>
 (g23 a 4).bind fun K=>
 (g6 K 8).bind fun r=>
 (g23 a 5).bind fun L=>
 (g6 L 8).bind fun s=>
 (g23 a 6).bind fun M=>
 (g6 M 4).bind fun t=>
 (g23 a 7).bind fun N=>
 (g6 N 8).bind fun u=>
 (g23 a 8).bind fun O=>
 (g6 O 6).bind fun v=>
 (g23 a 9).bind fun P=>
 (g6 P 3).bind fun w=>
 (g23 a 10).bind fun Q=>
 (g6 Q 2).bind fun x=>
 (g23 a 11).bind fun R=>
 (g6 R 8).bind fun y=>
 Zj ((0:Int)≤12)<|
 (g23 a 12).bind fun T=>
 (g6 T 3).bind fun z=>
 (g23 a 13).bind fun A=>
 (g23 a 14).bind fun C=>
 if (cop .eql (iop .add .i64 1 d) 1) then
 some (c.1,c.2.1,c.2.2,(iop .add .i64 1 d),r,s,t,u,(iop .add .i64 1 v),(iop .add .i64 12 w),x,(iop .shl .i64 y 12),(iop .add .i64 1 z),A,C,p,q,0,0,0,E0,0,0,0,0,0,0,false)
 else
 some (c.1,c.2.1,c.2.2,(iop .add .i64 1 d),r,s,t,u,(iop .add .i64 1 v),(iop .add .i64 12 w),x,(iop .shl .i64 y 12),(iop .add .i64 1 z),A,C,p,q,b.1,b.2.1,b.2.2.1,b.2.2.2.1,b.2.2.2.2.1,b.2.2.2.2.2.1,b.2.2.2.2.2.2.1,b.2.2.2.2.2.2.2.1,b.2.2.2.2.2.2.2.2.1,b.2.2.2.2.2.2.2.2.2.1,b.2.2.2.2.2.2.2.2.2.2)):=by kernel_rfl
noncomputable def F28:Fn:=⟨30,[4],[],[],0,[],[],Try.f28,[.agg [.int .i64,.int .i64,.int .i64],.agg [.int .i64,.int .i64,.int .i64]],[.c (.bool)],[]⟩
theorem Zop:F28.S.Ok Try.prog 28:=F28.ok Try.func28 (by kernel_rfl) trivial
noncomputable def g28 (a b c d e f:Int):Option (Bool):=F28.S.g [.i a,.i b,.i c,.i d,.i e,.i f]
theorem ZmC (a b e c d f:Int):g28 a b e c d f =
 (if (cop .neq a c) then
 some ((cop .lss a c))
 else
 if (cop .neq b d) then
 some ((cop .lss b d))
 else
 some ((cop .lss e f))):=by kernel_rfl
noncomputable def F7:Fn:=⟨203,[6],[(3,[(0,.c (.slice 1)),(1,.c (.slice 13)),(6,.box hs15),(7,.box hs14),(8,.c (.int .i64))]),(10,[(0,.c (.slice 1)),(1,.c (.slice 13)),(6,.box hs15),(7,.box hs14),(9,.c (.int .i64))]),(17,[(0,.c (.slice 1)),(1,.c (.slice 13)),(6,.box hs15),(7,.box hs14),(12,.c (.int .i64))]),(22,[(0,.c (.slice 1)),(1,.c (.slice 13)),(6,.box hs15),(7,.box hs14),(14,.c (.int .i64))]),(27,[(0,.c (.slice 1)),(1,.c (.slice 13)),(6,.box hs15),(7,.box hs14),(16,.c (.int .i64))])],[],0,[],[(33,[(7,1)])],Try.f7,[.c (.slice 1),.c (.slice 13),.c (.int .i64)],[.agg hs15],[(20,F20.S),(23,F23.S),(6,F6.S),(24,F24.S),(25,F25.S),(27,F27.S),(26,F26.S),(28,F28.S)]⟩
theorem ok7:F7.S.Ok Try.prog 7:=F7.ok Try.func7 (by kernel_rfl) ⟨ZoM,⟨Zon,⟨ok6,⟨ZoU,⟨ZoP,⟨Zpn,⟨ZoR,⟨Zop,trivial⟩⟩⟩⟩⟩⟩⟩⟩
noncomputable def g7 (a b:LL) (c:Int):Option (Qt18):=F7.S.g [.l a,.l b,.i c]
noncomputable def Zln (k:Nat) (a b c d e f g h j m n o p q:LL) (r:Int):Option (Qt18):=F7.lp [2,1,4,1,3,1,3,1,0] 0 r0 k [.l a,.l b,.l c,.l d,.l e,.l f,.l g,.l h,.l j,.l m,.l n,.l o,.l p,.l q,.i r]
theorem Zk7 (k:Nat) (f g m n o p q r h i j l b c:LL) (d:Int):Zln (k+1) f g m n o p q r h i j l b c d =
 ((g23 f 18).bind fun s=>
 (g6 s 3).bind fun t=>
 if (cop .lss d t) then
 if (cop .lss d (List.length g:Int)) then
 Zj (Jr E0 b 120)<|
 Zq g d hs4 fun (a:Qt10)=>
 Zj (Jr b (E0++[[AV.val (.int .i64 a.1),AV.val (.int .i64 a.2.1),AV.val (.int .i64 a.2.2.1),AV.val (.int .i64 a.2.2.2.1),AV.val (.int .i64 a.2.2.2.2.1),AV.slice false 3 a.2.2.2.2.2.1,AV.val (.int .i64 a.2.2.2.2.2.2.1),AV.val (.int .i64 a.2.2.2.2.2.2.2.1),AV.val (.int .i64 a.2.2.2.2.2.2.2.2.1),AV.val (.int .i64 a.2.2.2.2.2.2.2.2.2.1),AV.val (.int .i64 a.2.2.2.2.2.2.2.2.2.2.1),AV.val (.int .i64 a.2.2.2.2.2.2.2.2.2.2.2.1),AV.val (.bool (d4 (d8 a)))]]) 120)<|
 Zj (Jr E0 c 24)<|
 (g23 f (iop .add .i64 19 d)).bind fun u=>
 (g25 u).bind fun e=>
 Zj (Jr c (E0++[[AV.val (.int .i64 e.1),AV.val (.int .i64 e.2.1),AV.val (.int .i64 e.2.2)]]) 24)<|
 Zln k f g m n o p q r h i j l (b++(E0++[[AV.val (.int .i64 a.1),AV.val (.int .i64 a.2.1),AV.val (.int .i64 a.2.2.1),AV.val (.int .i64 a.2.2.2.1),AV.val (.int .i64 a.2.2.2.2.1),AV.slice false 3 a.2.2.2.2.2.1,AV.val (.int .i64 a.2.2.2.2.2.2.1),AV.val (.int .i64 a.2.2.2.2.2.2.2.1),AV.val (.int .i64 a.2.2.2.2.2.2.2.2.1),AV.val (.int .i64 a.2.2.2.2.2.2.2.2.2.1),AV.val (.int .i64 a.2.2.2.2.2.2.2.2.2.2.1),AV.val (.int .i64 a.2.2.2.2.2.2.2.2.2.2.2.1),AV.val (.bool (d4 (d8 a)))]])) (c++(E0++[[AV.val (.int .i64 e.1),AV.val (.int .i64 e.2.1),AV.val (.int .i64 e.2.2)]])) (iop .add .i64 d 1)
 else
 some (h,i,j,l,b,c)
 else
 some (h,i,j,l,b,c)):=by kernel_rfl
noncomputable def Zlj (k:Nat) (a b c d e f g h j m n o p q:LL) (r:Int):Option (Qt18):=F7.lp [2,1,4,1,3,1,0] 0 r0 k [.l a,.l b,.l c,.l d,.l e,.l f,.l g,.l h,.l j,.l m,.l n,.l o,.l p,.l q,.i r]
theorem ZkX (k:Nat) (b d e f g h i j l m n c o p:LL) (a:Int):Zlj (k+1) b d e f g h i j l m n c o p a =
 ((g23 b 16).bind fun r=>
 (g6 r 3).bind fun s=>
 if (cop .lss a s) then
 Zj (Jr E0 c 16)<|
 (g23 b (iop .add .i64 17 a)).bind fun t=>
 (g6 t 20).bind fun q=>
 Zj (Jr c (E0++[[AV.val (.int .i64 (iop .add .i64 a 1)),AV.val (.int .i64 q)]]) 16)<|
 Zlj k b d e f g h i j l m n (c++(E0++[[AV.val (.int .i64 (iop .add .i64 a 1)),AV.val (.int .i64 q)]])) o p (iop .add .i64 a 1)
 else
 Zln Z6 b d e f g h i j l m n c o p 0):=by kernel_rfl
noncomputable def Zld (k:Nat) (a b c d e f g h j m n o p q:LL) (r:Int):Option (Qt18):=F7.lp [2,1,4,1,0] 0 r0 k [.l a,.l b,.l c,.l d,.l e,.l f,.l g,.l h,.l j,.l m,.l n,.l o,.l p,.l q,.i r]
theorem Zk4 (k:Nat) (c e f g h i j l m n d o p q:LL) (a:Int):Zld (k+1) c e f g h i j l m n d o p q a =
 ((g23 c 14).bind fun r=>
 (g6 r 3).bind fun s=>
 if (cop .lss a s) then
 Zj (Jr E0 d 32)<|
 (g23 c (iop .add .i64 15 a)).bind fun t=>
 (g25 t).bind fun b=>
 Zj (Jr d (E0++[[AV.val (.int .i64 a),AV.val (.int .i64 b.1),AV.val (.int .i64 b.2.1),AV.val (.int .i64 b.2.2)]]) 32)<|
 Zld k c e f g h i j l m n (d++(E0++[[AV.val (.int .i64 a),AV.val (.int .i64 b.1),AV.val (.int .i64 b.2.1),AV.val (.int .i64 b.2.2)]])) o p q (iop .add .i64 a 1)
 else
 Zlj Z6 c e f g h i j l m n d o p q 0):=by kernel_rfl
noncomputable def ZjB (k:Nat) (a b c d e f g h j m n o p q:LL) (r:Int):Option (Qt18):=F7.lp [2,1,0] 0 r0 k [.l a,.l b,.l c,.l d,.l e,.l f,.l g,.l h,.l j,.l m,.l n,.l o,.l p,.l q,.i r]
theorem ZkK (k:Nat) (d e g h i j l m n b o p q r:LL) (f:Int):ZjB (k+1) d e g h i j l m n b o p q r f =
 ((g23 d 12).bind fun t=>
 (g6 t 3).bind fun u=>
 if (cop .lss f u) then
 if (cop .gtr (List.length e:Int) 0) then
 (g27 d (iop .add .i64 13 f)).bind fun v=>
 (g23 d f).bind fun w=>
 (g6 w (List.length e:Int)).bind fun x=>
 Zq e x hs4 fun (c:Qt10)=>
 (g26 v c.2.2.1 c.2.2.2.1 c.2.2.2.2.1 c.2.2.2.2.2.1 c.2.2.2.2.2.2.1 c.2.2.2.2.2.2.2.1 c.2.2.2.2.2.2.2.2.1 c.2.2.2.2.2.2.2.2.2.1 c.2.2.2.2.2.2.2.2.2.2.1 c.2.2.2.2.2.2.2.2.2.2.2.1 (d4 (d8 c))).bind fun a=>
 if (cop .eql (List.length b:Int) 0) then
 Zj (Jr E0 b 240)<|
 Zj (Jr b (E0++[[I a.1,I a.2.1,I a.2.2.1,I a.2.2.2.1,I a.2.2.2.2.1,I a.2.2.2.2.2.1,I a.2.2.2.2.2.2.1,I a.2.2.2.2.2.2.2.1,I a.2.2.2.2.2.2.2.2.1,I a.2.2.2.2.2.2.2.2.2.1,I a.2.2.2.2.2.2.2.2.2.2.1,I a.2.2.2.2.2.2.2.2.2.2.2.1,AV.val (.int .i64 (d4 (d8 a)).1),AV.val (.int .i64 (d4 (d8 a)).2.1),AV.val (.int .i64 (d2 (d4 (d8 a))).1),AV.val (.int .i64 (d2 (d4 (d8 a))).2.1),AV.val (.int .i64 (d16 a).1),AV.val (.int .i64 (d16 a).2.1),AV.val (.int .i64 (d2 (d16 a)).1),AV.val (.int .i64 (d2 (d16 a)).2.1),AV.slice false 3 (d4 (d16 a)).1,AV.val (.int .i64 (d4 (d16 a)).2.1),AV.val (.int .i64 (d2 (d4 (d16 a))).1),AV.val (.int .i64 (d2 (d4 (d16 a))).2.1),AV.val (.int .i64 (d8 (d16 a)).1),AV.val (.int .i64 (d8 (d16 a)).2.1),AV.val (.int .i64 (d2 (d8 (d16 a))).1),AV.val (.bool (d2 (d8 (d16 a))).2)]]) 240)<|
 ZjB k d e g h i j l m n (b++(E0++[[I a.1,I a.2.1,I a.2.2.1,I a.2.2.2.1,I a.2.2.2.2.1,I a.2.2.2.2.2.1,I a.2.2.2.2.2.2.1,I a.2.2.2.2.2.2.2.1,I a.2.2.2.2.2.2.2.2.1,I a.2.2.2.2.2.2.2.2.2.1,I a.2.2.2.2.2.2.2.2.2.2.1,I a.2.2.2.2.2.2.2.2.2.2.2.1,AV.val (.int .i64 (d4 (d8 a)).1),AV.val (.int .i64 (d4 (d8 a)).2.1),AV.val (.int .i64 (d2 (d4 (d8 a))).1),AV.val (.int .i64 (d2 (d4 (d8 a))).2.1),AV.val (.int .i64 (d16 a).1),AV.val (.int .i64 (d16 a).2.1),AV.val (.int .i64 (d2 (d16 a)).1),AV.val (.int .i64 (d2 (d16 a)).2.1),AV.slice false 3 (d4 (d16 a)).1,AV.val (.int .i64 (d4 (d16 a)).2.1),AV.val (.int .i64 (d2 (d4 (d16 a))).1),AV.val (.int .i64 (d2 (d4 (d16 a))).2.1),AV.val (.int .i64 (d8 (d16 a)).1),AV.val (.int .i64 (d8 (d16 a)).2.1),AV.val (.int .i64 (d2 (d8 (d16 a))).1),AV.val (.bool (d2 (d8 (d16 a))).2)]])) o p q r (iop .add .i64 f 1)
 else
 Zq b (iop .sub .i64 (List.length b:Int) 1) hs0 fun (s:Qt2)=>
 (g28 s.1 s.2.1 s.2.2.1 a.1 a.2.1 a.2.2.1).bind fun y=>
 if y then
 Zj (Jr E0 b 240)<|
 Zj (Jr b (E0++[[I a.1,I a.2.1,I a.2.2.1,I a.2.2.2.1,I a.2.2.2.2.1,I a.2.2.2.2.2.1,I a.2.2.2.2.2.2.1,I a.2.2.2.2.2.2.2.1,I a.2.2.2.2.2.2.2.2.1,I a.2.2.2.2.2.2.2.2.2.1,I a.2.2.2.2.2.2.2.2.2.2.1,I a.2.2.2.2.2.2.2.2.2.2.2.1,AV.val (.int .i64 (d4 (d8 a)).1),AV.val (.int .i64 (d4 (d8 a)).2.1),AV.val (.int .i64 (d2 (d4 (d8 a))).1),AV.val (.int .i64 (d2 (d4 (d8 a))).2.1),AV.val (.int .i64 (d16 a).1),AV.val (.int .i64 (d16 a).2.1),AV.val (.int .i64 (d2 (d16 a)).1),AV.val (.int .i64 (d2 (d16 a)).2.1),AV.slice false 3 (d4 (d16 a)).1,AV.val (.int .i64 (d4 (d16 a)).2.1),AV.val (.int .i64 (d2 (d4 (d16 a))).1),AV.val (.int .i64 (d2 (d4 (d16 a))).2.1),AV.val (.int .i64 (d8 (d16 a)).1),AV.val (.int .i64 (d8 (d16 a)).2.1),AV.val (.int .i64 (d2 (d8 (d16 a))).1),AV.val (.bool (d2 (d8 (d16 a))).2)]]) 240)<|
 ZjB k d e g h i j l m n (b++(E0++[[I a.1,I a.2.1,I a.2.2.1,I a.2.2.2.1,I a.2.2.2.2.1,I a.2.2.2.2.2.1,I a.2.2.2.2.2.2.1,I a.2.2.2.2.2.2.2.1,I a.2.2.2.2.2.2.2.2.1,I a.2.2.2.2.2.2.2.2.2.1,I a.2.2.2.2.2.2.2.2.2.2.1,I a.2.2.2.2.2.2.2.2.2.2.2.1,AV.val (.int .i64 (d4 (d8 a)).1),AV.val (.int .i64 (d4 (d8 a)).2.1),AV.val (.int .i64 (d2 (d4 (d8 a))).1),AV.val (.int .i64 (d2 (d4 (d8 a))).2.1),AV.val (.int .i64 (d16 a).1),AV.val (.int .i64 (d16 a).2.1),AV.val (.int .i64 (d2 (d16 a)).1),AV.val (.int .i64 (d2 (d16 a)).2.1),AV.slice false 3 (d4 (d16 a)).1,AV.val (.int .i64 (d4 (d16 a)).2.1),AV.val (.int .i64 (d2 (d4 (d16 a))).1),AV.val (.int .i64 (d2 (d4 (d16 a))).2.1),AV.val (.int .i64 (d8 (d16 a)).1),AV.val (.int .i64 (d8 (d16 a)).2.1),AV.val (.int .i64 (d2 (d8 (d16 a))).1),AV.val (.bool (d2 (d8 (d16 a))).2)]])) o p q r (iop .add .i64 f 1)
 else
 ZjB k d e g h i j l m n b o p q r (iop .add .i64 f 1)
 else
 Zld Z6 d e g h i j l m n b o p q r 0
 else
 Zld Z6 d e g h i j l m n b o p q r 0):=by kernel_rfl
noncomputable def Zf2 (k:Nat) (a b c d e f g h j m n o p q:LL) (r:Int):Option (Qt18):=F7.lp [2] 0 r0 k [.l a,.l b,.l c,.l d,.l e,.l f,.l g,.l h,.l j,.l m,.l n,.l o,.l p,.l q,.i r]
theorem ZkZ (k:Nat) (d f g h i j l m b n o p q r:LL) (a:Int):Zf2 (k+1) d f g h i j l m b n o p q r a =
 (if (cop .lss a (List.length b:Int)) then
 (g23 d a).bind fun t=>
 (g6 t 5).bind fun u=>
 if (cop .eql u 4) then
 Zj ((0:Int)≤a)<|
 Zj ((a:Int) < (List.length b:Int))<|
 Zq b a hs3 fun (c:Qt9)=>
 (g24 c.1 c.2.1 c.2.2.1 c.2.2.2.1 c.2.2.2.2.1 c.2.2.2.2.2.1 c.2.2.2.2.2.2.1 c.2.2.2.2.2.2.2.1 c.2.2.2.2.2.2.2.2.1 c.2.2.2.2.2.2.2.2.2.1 c.2.2.2.2.2.2.2.2.2.2.1 c.2.2.2.2.2.2.2.2.2.2.2.1 (d4 (d8 c)).1 (d4 (d8 c)).2.1 (d2 (d4 (d8 c)))).bind fun v=>
 if (!v) then
 (g23 d a).bind fun s=>
 Zj ((5:Int)≠0)<|
 (g25 (iop .quo .i64 s 5)).bind fun e=>
 Zj ((0:Int)≤a)<|
 Zj ((a:Int) < (List.length b:Int))<|
 Zj ((0:Int)≤a)<|
 Zj ((a:Int) < (List.length b:Int))<|
 (g23 d a).bind fun w=>
 (g6 w 7).bind fun x=>
 if (cop .eql x 6) then
 (g23 d a).bind fun y=>
 Zj ((7:Int)≠0)<|
 (g6 (iop .quo .i64 y 7) 20).bind fun z=>
 Zj ((0:Int)≤a)<|
 Zj ((a:Int) < (List.length (Zy b (Int.toNat a) 12 [AV.val (.int .i64 e.1),AV.val (.int .i64 e.2.1),AV.val (.int .i64 e.2.2)]):Int))<|
 Zj ((0:Int)≤a)<|
 Zj ((a:Int) < (List.length (Zy b (Int.toNat a) 12 [AV.val (.int .i64 e.1),AV.val (.int .i64 e.2.1),AV.val (.int .i64 e.2.2)]):Int))<|
 Zf2 k d f g h i j l m (Zy (Zy b (Int.toNat a) 12 [AV.val (.int .i64 e.1),AV.val (.int .i64 e.2.1),AV.val (.int .i64 e.2.2)]) (Int.toNat a) 11 [AV.val (.int .i64 (iop .add .i64 1 z))]) n o p q r (iop .add .i64 a 1)
 else
 Zf2 k d f g h i j l m (Zy b (Int.toNat a) 12 [AV.val (.int .i64 e.1),AV.val (.int .i64 e.2.1),AV.val (.int .i64 e.2.2)]) n o p q r (iop .add .i64 a 1)
 else
 (g23 d a).bind fun s=>
 (g6 s 7).bind fun e=>
 if (cop .eql e 6) then
 (g23 d a).bind fun A=>
 Zj ((7:Int)≠0)<|
 (g6 (iop .quo .i64 A 7) 20).bind fun C=>
 Zj ((0:Int)≤a)<|
 Zj ((a:Int) < (List.length b:Int))<|
 Zj ((0:Int)≤a)<|
 Zj ((a:Int) < (List.length b:Int))<|
 Zf2 k d f g h i j l m (Zy b (Int.toNat a) 11 [AV.val (.int .i64 (iop .add .i64 1 C))]) n o p q r (iop .add .i64 a 1)
 else
 Zf2 k d f g h i j l m b n o p q r (iop .add .i64 a 1)
 else
 (g23 d a).bind fun c=>
 (g6 c 7).bind fun D=>
 if (cop .eql D 6) then
 (g23 d a).bind fun E=>
 Zj ((7:Int)≠0)<|
 (g6 (iop .quo .i64 E 7) 20).bind fun G=>
 Zj ((0:Int)≤a)<|
 Zj ((a:Int) < (List.length b:Int))<|
 Zj ((0:Int)≤a)<|
 Zj ((a:Int) < (List.length b:Int))<|
 Zf2 k d f g h i j l m (Zy b (Int.toNat a) 11 [AV.val (.int .i64 (iop .add .i64 1 G))]) n o p q r (iop .add .i64 a 1)
 else
 Zf2 k d f g h i j l m b n o p q r (iop .add .i64 a 1)
 else
 ZjB Z6 d f g h i j l m b n o p q r 0):=by kernel_rfl
theorem Zom (b a:LL) (c:Int):g7 b a c =
 ((g20 a c).bind fun d=>
 Zf2 Z6 b a E0 E0 E0 E0 E0 E0 d E0 E0 E0 E0 E0 0):=by kernel_rfl
noncomputable def F69:Fn:=⟨20,[4],[],[],0,[],[],Try.f69,[.c (.int .i64),.c (.int .i64)],[.agg [.int .i64,.int .i64]],[(6,F6.S)]⟩
theorem Zpz:F69.S.Ok Try.prog 69:=F69.ok Try.func69 (by kernel_rfl) ⟨ok6,trivial⟩
noncomputable def g69 (a b:Int):Option (Int×Int):=F69.S.g [.i a,.i b]
theorem Zni (b c:Int):g69 b c =
 ((g6 c 11).bind fun a=>
 Zj ((0:Int)≤(IntKind.wrap .u64 (iop .sub .i64 16 (iop .add .i64 6 a))))<|
 (g6 b (iop .shl .i64 1 (IntKind.wrap .u64 (iop .sub .i64 16 (iop .add .i64 6 a))))).bind fun d=>
 Zj ((0:Int)≤(IntKind.wrap .u64 (iop .add .i64 6 a)))<|
 some ((iop .shl .i64 d (IntKind.wrap .u64 (iop .add .i64 6 a))),(iop .add .i64 6 a))):=by kernel_rfl
noncomputable def F47:Fn:=⟨14,[4],[],[],0,[],[],Try.f47,[.c (.int .i64),.c (.int .i64)],[.agg hs11],[(69,F69.S)]⟩
theorem ZpD:F47.S.Ok Try.prog 47:=F47.ok Try.func47 (by kernel_rfl) ⟨Zpz,trivial⟩
noncomputable def g47 (a b:Int):Option (Qt17):=F47.S.g [.i a,.i b]
theorem Zlu (a b:Int):g47 a b =
 ((g69 a b).bind fun c=>
 some (1,c.1,c.2,7,0,0,false)):=by kernel_rfl
noncomputable def F70:Fn:=⟨21,[4],[(2,[(0,.c (.slice 13)),(3,.box [.int .i64,.int .i64,.int .i64]),(5,.c (.int .i64))])],[],0,[],[],Try.f70,[.c (.slice 13),.agg [.int .i64,.int .i64,.int .i64]],[.c (.int .i64)],[]⟩
theorem Zot:F70.S.Ok Try.prog 70:=F70.ok Try.func70 (by kernel_rfl) trivial
noncomputable def g70 (a:LL) (b c d:Int):Option (Int):=F70.S.g [.l a,.i b,.i c,.i d]
noncomputable def ZfQ (k:Nat) (a:LL) (b c d e:Int):Option (Int):=F70.lp [0] 0 r0 k [.l a,.i b,.i c,.i d,.i e]
theorem ZfD (k:Nat) (b:LL) (c d e a:Int):ZfQ (k+1) b c d e a =
 (if (cop .lss a (List.length b:Int)) then
 Zq b a hs4 fun (f:Qt10)=>
 if ((cop .eql f.2.2.1 c)&&((cop .eql f.2.2.2.1 d)&&((cop .eql f.2.2.2.2.1 e)&&true))) then
 some (a)
 else
 ZfQ k b c d e (iop .add .i64 a 1)
 else
 some ((-1))):=by kernel_rfl
theorem ZmO (a:LL) (b c d:Int):g70 a b c d =
 (ZfQ Z6 a b c d 0):=by kernel_rfl
noncomputable def F71:Fn:=⟨25,[4],[],[],0,[],[],Try.f71,[.agg [.int .i64,.int .i64],.agg [.int .i64,.int .i64]],[.c (.bool)],[(66,F66.S),(67,F67.S)]⟩
theorem Zpu:F71.S.Ok Try.prog 71:=F71.ok Try.func71 (by kernel_rfl) ⟨ZnC,⟨ZoN,trivial⟩⟩
noncomputable def g71 (a b c d:Int):Option (Bool):=F71.S.g [.i a,.i b,.i c,.i d]
theorem ZmH (a c b d:Int):g71 a c b d =
 ((g66 a c).bind fun e=>
 if e then
 (g66 b d).bind fun f=>
 if f then
 (g67 b d).bind fun g=>
 if (cop .lss a g) then
 (g67 a c).bind fun h=>
 some ((cop .lss b h))
 else
 some (false)
 else
 some (false)
 else
 some (false)):=by kernel_rfl
noncomputable def F48:Fn:=⟨64,[6],[(3,[(0,.c (.slice 13)),(2,.c (.slice 7)),(7,.c (.int .i64)),(8,.c (.int .i64))]),(6,[(0,.c (.slice 13)),(2,.c (.slice 7)),(7,.c (.int .i64)),(8,.c (.int .i64)),(9,.c (.int .i64))])],[],0,[],[],Try.f48,[.c (.slice 13),.agg [.int .i64,.int .i64,.int .i64],.c (.slice 7)],[.c (.bool)],[(70,F70.S),(17,F17.S),(44,F44.S),(71,F71.S)]⟩
theorem ZoW:F48.S.Ok Try.prog 48:=F48.ok Try.func48 (by kernel_rfl) ⟨Zot,⟨Zob,⟨ZoI,⟨Zpu,trivial⟩⟩⟩⟩
noncomputable def g48 (a:LL) (b c d:Int) (e:LL):Option (Bool):=F48.S.g [.l a,.i b,.i c,.i d,.l e]
noncomputable def Zat (rec0:List V→Option (Bool)) (k:Nat) (a b:LL) (c d e:Int):Option (Bool):=F48.lp [3,0] 1 (Zlh r0 0 rec0) k [.l a,.l b,.i c,.i d,.i e]
theorem Zfh (rec0:List V→Option (Bool)) (k:Nat) (c d:LL) (f e h:Int):Zat rec0 (k+1) c d f e h =
 (if (cop .lss h (List.length c:Int)) then
 Zq c h hs4 fun (a:Qt10)=>
 if (cop .geq f 0) then
 if (cop .eql a.2.2.2.2.2.2.1 1) then
 (g17 a.2.2.2.2.2.2.1 a.2.2.2.2.2.2.2.1 a.2.2.2.2.2.2.2.2.1 a.2.2.2.2.2.2.2.2.2.1 a.2.2.2.2.2.2.2.2.2.2.1 a.2.2.2.2.2.2.2.2.2.2.2.1 (d4 (d8 a))).bind fun g=>
 Zq c f hs4 fun (b:Qt10)=>
 (g17 b.2.2.2.2.2.2.1 b.2.2.2.2.2.2.2.1 b.2.2.2.2.2.2.2.2.1 b.2.2.2.2.2.2.2.2.2.1 b.2.2.2.2.2.2.2.2.2.2.1 b.2.2.2.2.2.2.2.2.2.2.2.1 (d4 (d8 b))).bind fun o=>
 (g44 g.1 g.2 o.1 o.2).bind fun r=>
 (g17 a.2.2.2.2.2.2.1 a.2.2.2.2.2.2.2.1 a.2.2.2.2.2.2.2.2.1 a.2.2.2.2.2.2.2.2.2.1 a.2.2.2.2.2.2.2.2.2.2.1 a.2.2.2.2.2.2.2.2.2.2.2.1 (d4 (d8 a))).bind fun p=>
 Zq d e hs11 fun (j:Qt17)=>
 (g17 j.1 j.2.1 j.2.2.1 j.2.2.2.1 j.2.2.2.2.1 j.2.2.2.2.2.1 j.2.2.2.2.2.2).bind fun q=>
 (g71 p.1 p.2 q.1 q.2).bind fun s=>
 if s then
 if (!r) then
 some (true)
 else
 Zat rec0 k c d f e (iop .add .i64 h 1)
 else
 Zat rec0 k c d f e (iop .add .i64 h 1)
 else
 (g17 a.2.2.2.2.2.2.1 a.2.2.2.2.2.2.2.1 a.2.2.2.2.2.2.2.2.1 a.2.2.2.2.2.2.2.2.2.1 a.2.2.2.2.2.2.2.2.2.2.1 a.2.2.2.2.2.2.2.2.2.2.2.1 (d4 (d8 a))).bind fun g=>
 Zq d e hs11 fun (b:Qt17)=>
 (g17 b.1 b.2.1 b.2.2.1 b.2.2.2.1 b.2.2.2.2.1 b.2.2.2.2.2.1 b.2.2.2.2.2.2).bind fun m=>
 (g71 g.1 g.2 m.1 m.2).bind fun n=>
 if n then
 some (true)
 else
 Zat rec0 k c d f e (iop .add .i64 h 1)
 else
 (g17 a.2.2.2.2.2.2.1 a.2.2.2.2.2.2.2.1 a.2.2.2.2.2.2.2.2.1 a.2.2.2.2.2.2.2.2.2.1 a.2.2.2.2.2.2.2.2.2.2.1 a.2.2.2.2.2.2.2.2.2.2.2.1 (d4 (d8 a))).bind fun g=>
 Zq d e hs11 fun (b:Qt17)=>
 (g17 b.1 b.2.1 b.2.2.1 b.2.2.2.1 b.2.2.2.2.1 b.2.2.2.2.2.1 b.2.2.2.2.2.2).bind fun m=>
 (g71 g.1 g.2 m.1 m.2).bind fun n=>
 if n then
 some (true)
 else
 Zat rec0 k c d f e (iop .add .i64 h 1)
 else
 rec0 [.l c,.l d,.i f,.i (iop .add .i64 e 1)]):=by kernel_rfl
noncomputable def ZhZ (k:Nat) (a b:LL) (c d:Int):Option (Bool):=F48.lp [2] 0 r0 k [.l a,.l b,.i c,.i d]
theorem ZeH (k:Nat) (c a:LL) (d b:Int):ZhZ (k+1) c a d b =
 (if (cop .lss b (List.length a:Int)) then
 Zat (F48.lp [2] 0 r0 k) Z6 c a d b 0
 else
 some (false)):=by kernel_rfl
theorem Zmv (a:LL) (b c d:Int) (e:LL):g48 a b c d e =
 ((g70 a b c d).bind fun f=>
 ZhZ Z6 a e f 0):=by kernel_rfl
noncomputable def F83:Fn:=⟨31,[6],[(2,[(0,.c (.slice 13)),(1,.c (.int .i64)),(2,.c (.int .i64)),(7,.c (.int .i64))])],[],0,[],[],Try.f83,[.c (.slice 13),.c (.int .i64),.c (.int .i64)],[.c (.int .i64)],[]⟩
theorem Zpl:F83.S.Ok Try.prog 83:=F83.ok Try.func83 (by kernel_rfl) trivial
noncomputable def g83 (a:LL) (b c:Int):Option (Int):=F83.S.g [.l a,.i b,.i c]
noncomputable def ZdW (k:Nat) (a:LL) (b c d:Int):Option (Int):=F83.lp [0] 0 r0 k [.l a,.i b,.i c,.i d]
theorem Zfl (k:Nat) (b:LL) (c d a:Int):ZdW (k+1) b c d a =
 (if (cop .lss a (List.length b:Int)) then
 Zq b a hs4 fun (e:Qt10)=>
 if (cop .eql e.1 c) then
 Zq b a hs4 fun (f:Qt10)=>
 if (cop .eql f.2.1 d) then
 some (a)
 else
 ZdW k b c d (iop .add .i64 a 1)
 else
 ZdW k b c d (iop .add .i64 a 1)
 else
 some ((-1))):=by kernel_rfl
theorem Zmf (a:LL) (b c:Int):g83 a b c =
 (ZdW Z6 a b c 0):=by kernel_rfl
noncomputable def F84:Fn:=⟨32,[2],[(3,[(0,.c (.slice 13)),(3,.c (.own false 81)),(4,.c (.int .i64))])],[],0,[],[],Try.f84,[.c (.slice 13)],[.c (.own false 81)],[(39,F39.S)]⟩
theorem Zo4:F84.S.Ok Try.prog 84:=F84.ok Try.func84 (by kernel_rfl) ⟨ZlW,trivial⟩
noncomputable def g84 (a:LL):Option (LL):=F84.S.g [.l a]
noncomputable def Zgp (k:Nat) (a b:LL) (c:Int):Option (LL):=F84.lp [0] 0 r0 k [.l a,.l b,.i c]
theorem Zfq (k:Nat) (c e:LL) (d:Int):Zgp (k+1) c e d =
 (if (cop .lss d (List.length c:Int)) then
 Zq c d hs4 fun (f:Qt10)=>
 Zq c d hs4 fun (g:Qt10)=>
 Zq c d hs4 fun (b:Qt10)=>
 (g39 b.2.2.1 b.2.2.2.1 b.2.2.2.2.1 b.2.2.2.2.2.1 b.2.2.2.2.2.2.1 b.2.2.2.2.2.2.2.1 b.2.2.2.2.2.2.2.2.1 b.2.2.2.2.2.2.2.2.2.1 b.2.2.2.2.2.2.2.2.2.2.1 b.2.2.2.2.2.2.2.2.2.2.2.1 (d4 (d8 b))).bind fun a=>
 Zj (Jr e (E0++[[AV.val (.int .i64 f.1),AV.val (.int .i64 g.2.1),AV.val (.int .i64 a.1),AV.val (.int .i64 a.2.1),AV.val (.int .i64 a.2.2.1),AV.slice false 3 a.2.2.2.1,AV.val (.int .i64 a.2.2.2.2.1),AV.val (.int .i64 a.2.2.2.2.2.1),AV.val (.int .i64 a.2.2.2.2.2.2.1),AV.val (.int .i64 a.2.2.2.2.2.2.2.1),AV.val (.int .i64 a.2.2.2.2.2.2.2.2.1),AV.val (.int .i64 a.2.2.2.2.2.2.2.2.2.1),AV.val (.bool a.2.2.2.2.2.2.2.2.2.2)]]) 120)<|
 Zgp k c (e++(E0++[[AV.val (.int .i64 f.1),AV.val (.int .i64 g.2.1),AV.val (.int .i64 a.1),AV.val (.int .i64 a.2.1),AV.val (.int .i64 a.2.2.1),AV.slice false 3 a.2.2.2.1,AV.val (.int .i64 a.2.2.2.2.1),AV.val (.int .i64 a.2.2.2.2.2.1),AV.val (.int .i64 a.2.2.2.2.2.2.1),AV.val (.int .i64 a.2.2.2.2.2.2.2.1),AV.val (.int .i64 a.2.2.2.2.2.2.2.2.1),AV.val (.int .i64 a.2.2.2.2.2.2.2.2.2.1),AV.val (.bool a.2.2.2.2.2.2.2.2.2.2)]])) (iop .add .i64 d 1)
 else
 some (e)):=by kernel_rfl
theorem Zme (a:LL):g84 a =
 (Zgp Z6 a E0 0):=by kernel_rfl
noncomputable def F72:Fn:=⟨62,[4,5],[(4,[(0,.c (.slice 13)),(3,.box hs4),(6,.c (.int .i64))])],[],0,[],[],Try.f72,[.c (.slice 13),.agg hs4],[.c (.own false 81),.c (.bool)],[(70,F70.S),(83,F83.S),(28,F28.S),(84,F84.S),(39,F39.S)]⟩
theorem Zo7:F72.S.Ok Try.prog 72:=F72.ok Try.func72 (by kernel_rfl) ⟨Zot,⟨Zpl,⟨Zop,⟨Zo4,⟨ZlW,trivial⟩⟩⟩⟩⟩
noncomputable def g72 (a:LL) (c d e f h:Int) (j:LL) (k m n o p q:Int) (r:Bool):Option (LL×Bool):=F72.S.g [.l a,.i c,.i d,.i e,.i f,.i h,.l j,.i k,.i m,.i n,.i o,.i p,.i q,.b r]
noncomputable def ZfO (k:Nat) (a:LL) (c d e f g:Int) (h:LL) (j m n o p q:Int) (r:Bool) (s:Int):Option (LL×Bool):=F72.lp [0,1,0,1,0] 0 r0 k [.l a,.i c,.i d,.i e,.i f,.i g,.l h,.i j,.i m,.i n,.i o,.i p,.i q,.b r,.i s]
theorem ZeO (k:Nat) (d:LL) (e f h i j:Int) (l:LL) (m n o p q r:Int) (s:Bool) (c:Int):ZfO (k+1) d e f h i j l m n o p q r s c =
 (if (cop .lss c (List.length d:Int)) then
 Zq d c hs4 fun (g:Qt10)=>
 (g28 h i j g.2.2.1 g.2.2.2.1 g.2.2.2.2.1).bind fun w=>
 if (!w) then
 ZfO k d e f h i j l m n o p q r s (iop .add .i64 c 1)
 else
 Zj ((0:Int)≤c)<|
 Zj ((c:Int)≤(List.length d:Int))<|
 (g84 (List.take (Int.toNat c) d)).bind fun t=>
 (g39 h i j l m n o p q r s).bind fun a=>
 Zj (Jr t (E0++[[AV.val (.int .i64 e),AV.val (.int .i64 f),AV.val (.int .i64 a.1),AV.val (.int .i64 a.2.1),AV.val (.int .i64 a.2.2.1),AV.slice false 3 a.2.2.2.1,AV.val (.int .i64 a.2.2.2.2.1),AV.val (.int .i64 a.2.2.2.2.2.1),AV.val (.int .i64 a.2.2.2.2.2.2.1),AV.val (.int .i64 a.2.2.2.2.2.2.2.1),AV.val (.int .i64 a.2.2.2.2.2.2.2.2.1),AV.val (.int .i64 a.2.2.2.2.2.2.2.2.2.1),AV.val (.bool a.2.2.2.2.2.2.2.2.2.2)]]) 120)<|
 Zj ((0:Int)≤c)<|
 Zj ((c:Int)≤(List.length d:Int))<|
 (g84 (List.drop (Int.toNat c) d)).bind fun u=>
 Zj (Jr (t++(E0++[[AV.val (.int .i64 e),AV.val (.int .i64 f),AV.val (.int .i64 a.1),AV.val (.int .i64 a.2.1),AV.val (.int .i64 a.2.2.1),AV.slice false 3 a.2.2.2.1,AV.val (.int .i64 a.2.2.2.2.1),AV.val (.int .i64 a.2.2.2.2.2.1),AV.val (.int .i64 a.2.2.2.2.2.2.1),AV.val (.int .i64 a.2.2.2.2.2.2.2.1),AV.val (.int .i64 a.2.2.2.2.2.2.2.2.1),AV.val (.int .i64 a.2.2.2.2.2.2.2.2.2.1),AV.val (.bool a.2.2.2.2.2.2.2.2.2.2)]])) u 120)<|
 some (((t++(E0++[[AV.val (.int .i64 e),AV.val (.int .i64 f),AV.val (.int .i64 a.1),AV.val (.int .i64 a.2.1),AV.val (.int .i64 a.2.2.1),AV.slice false 3 a.2.2.2.1,AV.val (.int .i64 a.2.2.2.2.1),AV.val (.int .i64 a.2.2.2.2.2.1),AV.val (.int .i64 a.2.2.2.2.2.2.1),AV.val (.int .i64 a.2.2.2.2.2.2.2.1),AV.val (.int .i64 a.2.2.2.2.2.2.2.2.1),AV.val (.int .i64 a.2.2.2.2.2.2.2.2.2.1),AV.val (.bool a.2.2.2.2.2.2.2.2.2.2)]]))++u),true)
 else
 Zj ((0:Int)≤c)<|
 Zj ((c:Int)≤(List.length d:Int))<|
 (g84 (List.take (Int.toNat c) d)).bind fun g=>
 (g39 h i j l m n o p q r s).bind fun b=>
 Zj (Jr g (E0++[[AV.val (.int .i64 e),AV.val (.int .i64 f),AV.val (.int .i64 b.1),AV.val (.int .i64 b.2.1),AV.val (.int .i64 b.2.2.1),AV.slice false 3 b.2.2.2.1,AV.val (.int .i64 b.2.2.2.2.1),AV.val (.int .i64 b.2.2.2.2.2.1),AV.val (.int .i64 b.2.2.2.2.2.2.1),AV.val (.int .i64 b.2.2.2.2.2.2.2.1),AV.val (.int .i64 b.2.2.2.2.2.2.2.2.1),AV.val (.int .i64 b.2.2.2.2.2.2.2.2.2.1),AV.val (.bool b.2.2.2.2.2.2.2.2.2.2)]]) 120)<|
 Zj ((0:Int)≤c)<|
 Zj ((c:Int)≤(List.length d:Int))<|
 (g84 (List.drop (Int.toNat c) d)).bind fun v=>
 Zj (Jr (g++(E0++[[AV.val (.int .i64 e),AV.val (.int .i64 f),AV.val (.int .i64 b.1),AV.val (.int .i64 b.2.1),AV.val (.int .i64 b.2.2.1),AV.slice false 3 b.2.2.2.1,AV.val (.int .i64 b.2.2.2.2.1),AV.val (.int .i64 b.2.2.2.2.2.1),AV.val (.int .i64 b.2.2.2.2.2.2.1),AV.val (.int .i64 b.2.2.2.2.2.2.2.1),AV.val (.int .i64 b.2.2.2.2.2.2.2.2.1),AV.val (.int .i64 b.2.2.2.2.2.2.2.2.2.1),AV.val (.bool b.2.2.2.2.2.2.2.2.2.2)]])) v 120)<|
 some (((g++(E0++[[AV.val (.int .i64 e),AV.val (.int .i64 f),AV.val (.int .i64 b.1),AV.val (.int .i64 b.2.1),AV.val (.int .i64 b.2.2.1),AV.slice false 3 b.2.2.2.1,AV.val (.int .i64 b.2.2.2.2.1),AV.val (.int .i64 b.2.2.2.2.2.1),AV.val (.int .i64 b.2.2.2.2.2.2.1),AV.val (.int .i64 b.2.2.2.2.2.2.2.1),AV.val (.int .i64 b.2.2.2.2.2.2.2.2.1),AV.val (.int .i64 b.2.2.2.2.2.2.2.2.2.1),AV.val (.bool b.2.2.2.2.2.2.2.2.2.2)]]))++v),true)):=by kernel_rfl
theorem Znk (a:LL) (b c d e f:Int) (g:LL) (h i j k l m:Int) (n:Bool):g72 a b c d e f g h i j k l m n =
 ((g70 a d e f).bind fun o=>
 if (cop .geq o 0) then
 some (E0,false)
 else
 (g83 a b c).bind fun p=>
 if (cop .geq p 0) then
 some (E0,false)
 else
 ZfO Z6 a b c d e f g h i j k l m n 0):=by kernel_rfl
noncomputable def F49:Fn:=⟨24,[8],[],[],0,[],[],Try.f49,[.c (.slice 13),.c (.int .i64),.c (.int .i64),.agg hs6],[.c (.slice 13)],[(72,F72.S)]⟩
theorem Zo5:F49.S.Ok Try.prog 49:=F49.ok Try.func49 (by kernel_rfl) ⟨Zo7,trivial⟩
noncomputable def g49 (a:LL) (c d e f h:Int) (j:LL) (k m n o p q:Int) (r:Bool):Option (LL):=F49.S.g [.l a,.i c,.i d,.i e,.i f,.i h,.l j,.i k,.i m,.i n,.i o,.i p,.i q,.b r]
theorem Zng (a:LL) (b c d e f:Int) (g:LL) (h i j k l m:Int) (n:Bool):g49 a b c d e f g h i j k l m n =
 ((g72 a b c d e f g h i j k l m n).bind fun o=>
 if (!o.2) then
 some (a)
 else
 some (o.1)):=by kernel_rfl
noncomputable def F50:Fn:=⟨11,[4],[],[],0,[],[],Try.f50,[.agg hs11,.c (.int .i64)],[.agg hs11],[]⟩
theorem Zo3:F50.S.Ok Try.prog 50:=F50.ok Try.func50 (by kernel_rfl) trivial
noncomputable def g50 (a c d e f h:Int) (j:Bool) (k:Int):Option (Qt17):=F50.S.g [.i a,.i c,.i d,.i e,.i f,.i h,.b j,.i k]
theorem Zm7 (a b c d e f:Int) (g:Bool) (h:Int):g50 a b c d e f g h =
 (some (a,b,c,(iop .and .i64 d h),e,f,g)):=by kernel_rfl
noncomputable def F51:Fn:=⟨136,[14,15],[(16,[(1,.c (.int .i64)),(2,.c (.int .i64)),(3,.c (.int .i64)),(4,.c (.int .i64)),(5,.c (.int .i64)),(6,.c (.int .i64)),(7,.box hs11),(16,.c (.bool)),(17,.c (.int .i64)),(19,.c (.own false 50)),(20,.c (.int .i64))])],[],0,[],[],Try.f51,[.agg hs11,.c (.int .i64),.c (.int .i64),.c (.int .i64),.c (.int .i64),.c (.int .i64),.c (.int .i64)],[.c (.slice 7),.c (.int .i64)],[(64,F64.S),(73,F73.S),(74,F74.S)]⟩
theorem ZpC:F51.S.Ok Try.prog 51:=F51.ok Try.func51 (by kernel_rfl) ⟨ZnX,⟨ZoG,⟨ZoA,trivial⟩⟩⟩
noncomputable def g51 (a c d e f h:Int) (j:Bool) (k l m n o p:Int):Option (LL×Int):=F51.S.g [.i a,.i c,.i d,.i e,.i f,.i h,.b j,.i k,.i l,.i m,.i n,.i o,.i p]
noncomputable def Kj (k:Nat) (a c d e f g h j m n o p:Int) (q r:Bool) (s:Int) (t:LL) (u:Int):Option (LL×Int):=F51.lp [0,1,1,1,0,1,0,0,1,1,1,1,0,0,1,3,1,1,1,0,1,0] 0 r0 k [.i a,.i c,.i d,.i e,.i f,.i g,.i h,.i j,.i m,.i n,.i o,.i p,.b q,.b r,.i s,.l t,.i u]
theorem ZeG (k:Nat) (b c j l d m o e p f q r:Int) (g n:Bool) (h:Int) (i:LL) (a:Int):Kj (k+1) b c j l d m o e p f q r g n h i a =
 (if (cop .lss a m) then
 if n then
 Zj (Jr i (E0++[[AV.val (.int .i64 b),AV.val (.int .i64 (iop .add .i64 (iop .add .i64 e d) (iop .mul .i64 a h))),AV.val (.int .i64 c),AV.val (.int .i64 f),AV.val (.int .i64 l),AV.val (.int .i64 j),AV.val (.bool g)]]) 56)<|
 Kj k b c j l d m o e p f q r g n h (i++(E0++[[AV.val (.int .i64 b),AV.val (.int .i64 (iop .add .i64 (iop .add .i64 e d) (iop .mul .i64 a h))),AV.val (.int .i64 c),AV.val (.int .i64 f),AV.val (.int .i64 l),AV.val (.int .i64 j),AV.val (.bool g)]])) (iop .add .i64 a 1)
 else
 Zj (Jr i (E0++[[AV.val (.int .i64 b),AV.val (.int .i64 (iop .add .i64 (iop .add .i64 e d) (iop .mul .i64 a h))),AV.val (.int .i64 c),AV.val (.int .i64 f),AV.val (.int .i64 0),AV.val (.int .i64 0),AV.val (.bool g)]]) 56)<|
 Kj k b c j l d m o e p f q r g n h (i++(E0++[[AV.val (.int .i64 b),AV.val (.int .i64 (iop .add .i64 (iop .add .i64 e d) (iop .mul .i64 a h))),AV.val (.int .i64 c),AV.val (.int .i64 f),AV.val (.int .i64 0),AV.val (.int .i64 0),AV.val (.bool g)]])) (iop .add .i64 a 1)
 else
 some (i,0)):=by kernel_rfl
theorem Zl2 (g i b h j k:Int) (f:Bool) (c a l m d e:Int):g51 g i b h j k f c a l m d e =
 ((g64 g i b h j k f).bind fun n=>
 if (!n) then
 some (E0,5)
 else
 if (cop .neq g 1) then
 some (E0,5)
 else
 if (cop .eql (iop .and .i64 h 2) 0) then
 some (E0,8)
 else
 (g73 c a).bind fun o=>
 if (!o) then
 some (E0,1)
 else
 if (cop .eql c 3) then
 (g74 m l).bind fun p=>
 if (!p) then
 some (E0,1)
 else
 if (cop .lss e 1) then
 some (E0,1)
 else
 if (cop .gtr e 8) then
 some (E0,1)
 else
 if (cop .lss d 0) then
 some (E0,1)
 else
 if f then
 if (cop .neq c 1) then
 if (cop .neq c 2) then
 some (E0,5)
 else
 Zj ((0:Int)≤(IntKind.wrap .u64 a))<|
 Zj ((0:Int)≤(IntKind.wrap .u64 b))<|
 Zj (((iop .shl .i64 1 (IntKind.wrap .u64 a)):Int)≠0)<|
 if (cop .neq (iop .rem .i64 d (iop .shl .i64 1 (IntKind.wrap .u64 a))) 0) then
 some (E0,6)
 else
 if (cop .gtr d (iop .shl .i64 1 (IntKind.wrap .u64 b))) then
 some (E0,6)
 else
 if (cop .gtr (iop .mul .i64 e (iop .shl .i64 1 (IntKind.wrap .u64 a))) (iop .sub .i64 (iop .shl .i64 1 (IntKind.wrap .u64 b)) d)) then
 some (E0,6)
 else
 if (cop .eql c 1) then
 if (cop .geq a b) then
 some (E0,6)
 else
 Kj Z6 c a l m d e g i b h j k f (cop .eql c 3) (iop .shl .i64 1 (IntKind.wrap .u64 a)) E0 0
 else
 Kj Z6 c a l m d e g i b h j k f (cop .eql c 3) (iop .shl .i64 1 (IntKind.wrap .u64 a)) E0 0
 else
 Zj ((0:Int)≤(IntKind.wrap .u64 a))<|
 Zj ((0:Int)≤(IntKind.wrap .u64 b))<|
 Zj (((iop .shl .i64 1 (IntKind.wrap .u64 a)):Int)≠0)<|
 if (cop .neq (iop .rem .i64 d (iop .shl .i64 1 (IntKind.wrap .u64 a))) 0) then
 some (E0,6)
 else
 if (cop .gtr d (iop .shl .i64 1 (IntKind.wrap .u64 b))) then
 some (E0,6)
 else
 if (cop .gtr (iop .mul .i64 e (iop .shl .i64 1 (IntKind.wrap .u64 a))) (iop .sub .i64 (iop .shl .i64 1 (IntKind.wrap .u64 b)) d)) then
 some (E0,6)
 else
 if (cop .eql c 1) then
 if (cop .geq a b) then
 some (E0,6)
 else
 Kj Z6 c a l m d e g i b h j k f (cop .eql c 3) (iop .shl .i64 1 (IntKind.wrap .u64 a)) E0 0
 else
 Kj Z6 c a l m d e g i b h j k f (cop .eql c 3) (iop .shl .i64 1 (IntKind.wrap .u64 a)) E0 0
 else
 Zj ((0:Int)≤(IntKind.wrap .u64 a))<|
 Zj ((0:Int)≤(IntKind.wrap .u64 b))<|
 Zj (((iop .shl .i64 1 (IntKind.wrap .u64 a)):Int)≠0)<|
 if (cop .neq (iop .rem .i64 d (iop .shl .i64 1 (IntKind.wrap .u64 a))) 0) then
 some (E0,6)
 else
 if (cop .gtr d (iop .shl .i64 1 (IntKind.wrap .u64 b))) then
 some (E0,6)
 else
 if (cop .gtr (iop .mul .i64 e (iop .shl .i64 1 (IntKind.wrap .u64 a))) (iop .sub .i64 (iop .shl .i64 1 (IntKind.wrap .u64 b)) d)) then
 some (E0,6)
 else
 if (cop .eql c 1) then
 if (cop .geq a b) then
 some (E0,6)
 else
 Kj Z6 c a l m d e g i b h j k f (cop .eql c 3) (iop .shl .i64 1 (IntKind.wrap .u64 a)) E0 0
 else
 Kj Z6 c a l m d e g i b h j k f (cop .eql c 3) (iop .shl .i64 1 (IntKind.wrap .u64 a)) E0 0
 else
 if (cop .lss e 1) then
 some (E0,1)
 else
 if (cop .gtr e 8) then
 some (E0,1)
 else
 if (cop .lss d 0) then
 some (E0,1)
 else
 if f then
 if (cop .neq c 1) then
 if (cop .neq c 2) then
 some (E0,5)
 else
 Zj ((0:Int)≤(IntKind.wrap .u64 a))<|
 Zj ((0:Int)≤(IntKind.wrap .u64 b))<|
 Zj (((iop .shl .i64 1 (IntKind.wrap .u64 a)):Int)≠0)<|
 if (cop .neq (iop .rem .i64 d (iop .shl .i64 1 (IntKind.wrap .u64 a))) 0) then
 some (E0,6)
 else
 if (cop .gtr d (iop .shl .i64 1 (IntKind.wrap .u64 b))) then
 some (E0,6)
 else
 if (cop .gtr (iop .mul .i64 e (iop .shl .i64 1 (IntKind.wrap .u64 a))) (iop .sub .i64 (iop .shl .i64 1 (IntKind.wrap .u64 b)) d)) then
 some (E0,6)
 else
 if (cop .eql c 1) then
 if (cop .geq a b) then
 some (E0,6)
 else
 Kj Z6 c a l m d e g i b h j k f (cop .eql c 3) (iop .shl .i64 1 (IntKind.wrap .u64 a)) E0 0
 else
 Kj Z6 c a l m d e g i b h j k f (cop .eql c 3) (iop .shl .i64 1 (IntKind.wrap .u64 a)) E0 0
 else
 Zj ((0:Int)≤(IntKind.wrap .u64 a))<|
 Zj ((0:Int)≤(IntKind.wrap .u64 b))<|
 Zj (((iop .shl .i64 1 (IntKind.wrap .u64 a)):Int)≠0)<|
 if (cop .neq (iop .rem .i64 d (iop .shl .i64 1 (IntKind.wrap .u64 a))) 0) then
 some (E0,6)
 else
 if (cop .gtr d (iop .shl .i64 1 (IntKind.wrap .u64 b))) then
 some (E0,6)
 else
 if (cop .gtr (iop .mul .i64 e (iop .shl .i64 1 (IntKind.wrap .u64 a))) (iop .sub .i64 (iop .shl .i64 1 (IntKind.wrap .u64 b)) d)) then
 some (E0,6)
 else
 if (cop .eql c 1) then
 if (cop .geq a b) then
 some (E0,6)
 else
 Kj Z6 c a l m d e g i b h j k f (cop .eql c 3) (iop .shl .i64 1 (IntKind.wrap .u64 a)) E0 0
 else
 Kj Z6 c a l m d e g i b h j k f (cop .eql c 3) (iop .shl .i64 1 (IntKind.wrap .u64 a)) E0 0
 else
 Zj ((0:Int)≤(IntKind.wrap .u64 a))<|
 Zj ((0:Int)≤(IntKind.wrap .u64 b))<|
 Zj (((iop .shl .i64 1 (IntKind.wrap .u64 a)):Int)≠0)<|
 if (cop .neq (iop .rem .i64 d (iop .shl .i64 1 (IntKind.wrap .u64 a))) 0) then
 some (E0,6)
 else
 if (cop .gtr d (iop .shl .i64 1 (IntKind.wrap .u64 b))) then
 some (E0,6)
 else
 if (cop .gtr (iop .mul .i64 e (iop .shl .i64 1 (IntKind.wrap .u64 a))) (iop .sub .i64 (iop .shl .i64 1 (IntKind.wrap .u64 b)) d)) then
 some (E0,6)
 else
 if (cop .eql c 1) then
 if (cop .geq a b) then
 some (E0,6)
 else
 Kj Z6 c a l m d e g i b h j k f (cop .eql c 3) (iop .shl .i64 1 (IntKind.wrap .u64 a)) E0 0
 else
 Kj Z6 c a l m d e g i b h j k f (cop .eql c 3) (iop .shl .i64 1 (IntKind.wrap .u64 a)) E0 0):=by kernel_rfl
noncomputable def F52:Fn:=⟨49,[6,7],[],[],0,[],[],Try.f52,[.agg hs6,.agg [.int .i64,.int .i64,.int .i64],.agg hs11],[.agg hs6,.c (.int .i64)],[(43,F43.S),(63,F63.S),(64,F64.S),(65,F65.S),(62,F62.S)]⟩
theorem Zpp:F52.S.Ok Try.prog 52:=F52.ok Try.func52 (by kernel_rfl) ⟨ZoK,⟨Zog,⟨ZnX,⟨ZoE,⟨Zoo,trivial⟩⟩⟩⟩⟩
noncomputable def g52 (a c d:Int) (e:LL) (f h j k m n:Int) (o:Bool) (p q r s t u v w x:Int) (y:Bool):Option (Qt12):=F52.S.g [.i a,.i c,.i d,.l e,.i f,.i h,.i j,.i k,.i m,.i n,.b o,.i p,.i q,.i r,.i s,.i t,.i u,.i v,.i w,.i x,.b y]
theorem ZmI (a b c:Int) (d:LL) (o p q r s t:Int) (u:Bool) (e f g h i j k l m:Int) (n:Bool):g52 a b c d o p q r s t u e f g h i j k l m n =
 ((g43 a b c d o p q r s t u).bind fun w=>
 if (!w) then
 some (0,0,0,E0,0,0,0,0,0,0,false,1)
 else
 (g63 e f g).bind fun x=>
 if (!x) then
 some (0,0,0,E0,0,0,0,0,0,0,false,1)
 else
 (g64 h i j k l m n).bind fun y=>
 if (!y) then
 some (0,0,0,E0,0,0,0,0,0,0,false,1)
 else
 if ((cop .eql e a)&&((cop .eql f b)&&((cop .eql g c)&&true))) then
 some (0,0,0,E0,0,0,0,0,0,0,false,1)
 else
 (g65 d e f g).bind fun z=>
 if z then
 some (0,0,0,E0,0,0,0,0,0,0,false,1)
 else
 if (cop .eql (List.length d:Int) 8) then
 some (0,0,0,E0,0,0,0,0,0,0,false,9)
 else
 (g62 d).bind fun v=>
 Zj (Jr v (E0++[[AV.val (.int .i64 a),AV.val (.int .i64 b),AV.val (.int .i64 c)]]) 24)<|
 some (e,f,g,(v++(E0++[[AV.val (.int .i64 a),AV.val (.int .i64 b),AV.val (.int .i64 c)]])),h,i,j,k,l,m,n,0)):=by kernel_rfl
noncomputable def F29:Fn:=⟨146,[6],[(18,[(0,.c (.slice 13)),(2,.c (.int .i64)),(7,.c (.int .i64)),(8,.c (.int .i64)),(10,.box hs6),(11,.c (.slice 7)),(16,.c (.int .i64))])],[],0,[],[],Try.f29,[.c (.slice 13),.agg hs7,.c (.int .i64)],[.c (.slice 13)],[(6,F6.S),(47,F47.S),(48,F48.S),(49,F49.S),(50,F50.S),(51,F51.S),(52,F52.S)]⟩
theorem Zo1:F29.S.Ok Try.prog 29:=F29.ok Try.func29 (by kernel_rfl) ⟨ok6,⟨ZpD,⟨ZoW,⟨Zo5,⟨Zo3,⟨ZpC,⟨Zpp,trivial⟩⟩⟩⟩⟩⟩⟩
noncomputable def g29 (a:LL) (c:Bool) (d e f h j k m n:Int) (o:Bool) (p:Int):Option (LL):=F29.S.g [.l a,.b c,.i d,.i e,.i f,.i h,.i j,.i k,.i m,.i n,.b o,.i p]
noncomputable def ZcK (k:Nat) (a:LL) (c d e f g h:Int) (j:LL) (m n o p q r:Int) (s:Bool) (t:LL) (u:Int):Option (LL):=F29.lp [2,1,1,5,8,1,0,1,0] 0 r0 k [.l a,.i c,.i d,.i e,.i f,.i g,.i h,.l j,.i m,.i n,.i o,.i p,.i q,.i r,.b s,.l t,.i u]
theorem ZeF (k:Nat) (d:LL) (g e h i j l:Int) (m:LL) (n o p q r s:Int) (t:Bool) (f:LL) (c:Int):ZcK (k+1) d g e h i j l m n o p q r s t f c =
 (if (cop .lss c (List.length f:Int)) then
 Zq f c hs11 fun (b:Qt17)=>
 (g52 i j l m n o p q r s t e g c b.1 b.2.1 b.2.2.1 b.2.2.2.1 b.2.2.2.2.1 b.2.2.2.2.2.1 b.2.2.2.2.2.2).bind fun a=>
 if (cop .neq a.2.2.2.2.2.2.2.2.2.2.2 0) then
 some (d)
 else
 (g49 d e (iop .add .i64 h c) a.1 a.2.1 a.2.2.1 a.2.2.2.1 a.2.2.2.2.1 a.2.2.2.2.2.1 a.2.2.2.2.2.2.1 a.2.2.2.2.2.2.2.1 a.2.2.2.2.2.2.2.2.1 a.2.2.2.2.2.2.2.2.2.1 a.2.2.2.2.2.2.2.2.2.2.1).bind fun u=>
 ZcK k u g e h i j l m n o p q r s t f (iop .add .i64 c 1)
 else
 some (d)):=by kernel_rfl
theorem ZlN (c:LL) (o:Bool) (p q r s g h t j:Int) (u:Bool) (f:Int):g29 c o p q r s g h t j u f =
 ((g6 q 4).bind fun e=>
 (g6 r 8).bind fun i=>
 if o then
 (g47 g h).bind fun b=>
 (g48 c 0 0 0 (E0++[[AV.val (.int .i64 b.1),AV.val (.int .i64 b.2.1),AV.val (.int .i64 b.2.2.1),AV.val (.int .i64 b.2.2.2.1),AV.val (.int .i64 b.2.2.2.2.1),AV.val (.int .i64 b.2.2.2.2.2.1),AV.val (.bool b.2.2.2.2.2.2)]])).bind fun k=>
 if k then
 some (c)
 else
 (g49 c e i e f 0 E0 b.1 b.2.1 b.2.2.1 b.2.2.2.1 b.2.2.2.2.1 b.2.2.2.2.2.1 b.2.2.2.2.2.2).bind fun l=>
 some (l)
 else
 if (cop .eql (List.length c:Int) 0) then
 (g47 g h).bind fun b=>
 (g48 c 0 0 0 (E0++[[AV.val (.int .i64 b.1),AV.val (.int .i64 b.2.1),AV.val (.int .i64 b.2.2.1),AV.val (.int .i64 b.2.2.2.1),AV.val (.int .i64 b.2.2.2.2.1),AV.val (.int .i64 b.2.2.2.2.2.1),AV.val (.bool b.2.2.2.2.2.2)]])).bind fun k=>
 if k then
 some (c)
 else
 (g49 c e i e f 0 E0 b.1 b.2.1 b.2.2.1 b.2.2.2.1 b.2.2.2.2.1 b.2.2.2.2.2.1 b.2.2.2.2.2.2).bind fun l=>
 some (l)
 else
 (g6 p (List.length c:Int)).bind fun b=>
 Zq c b hs4 fun (a:Qt10)=>
 (g6 j 8).bind fun w=>
 (g50 a.2.2.2.2.2.2.1 a.2.2.2.2.2.2.2.1 a.2.2.2.2.2.2.2.2.1 a.2.2.2.2.2.2.2.2.2.1 a.2.2.2.2.2.2.2.2.2.2.1 a.2.2.2.2.2.2.2.2.2.2.2.1 (d4 (d8 a)) w).bind fun d=>
 if (!u) then
 (g6 s 6).bind fun v=>
 (g6 h 10).bind fun x=>
 Zq ((((((E0++[[AV.val (.int .i64 (iop .add .i64 6 x))]])++[[AV.val (.int .i64 12)]])++[[AV.val (.int .i64 12)]])++[[AV.val (.int .i64 6)]])++[[AV.val (.int .i64 10)]])++[[AV.val (.int .i64 16)]]) (iop .sub .i64 (iop .add .i64 1 v) 1) [.int .i64] fun (m:Int)=>
 (g6 j 2).bind fun y=>
 (g6 g 8).bind fun z=>
 Zj ((0:Int)≤(IntKind.wrap .u64 m))<|
 (g6 t 3).bind fun A=>
 (g51 a.2.2.2.2.2.2.1 a.2.2.2.2.2.2.2.1 a.2.2.2.2.2.2.2.2.1 a.2.2.2.2.2.2.2.2.2.1 a.2.2.2.2.2.2.2.2.2.2.1 a.2.2.2.2.2.2.2.2.2.2.2.1 (d4 (d8 a)) (iop .add .i64 1 v) m y 32 (iop .shl .i64 z (IntKind.wrap .u64 m)) (iop .add .i64 1 A)).bind fun n=>
 if (cop .neq n.2 0) then
 some (c)
 else
 (g48 c a.2.2.1 a.2.2.2.1 a.2.2.2.2.1 n.1).bind fun C=>
 if C then
 some (c)
 else
 ZcK Z6 c f e i a.2.2.1 a.2.2.2.1 a.2.2.2.2.1 a.2.2.2.2.2.1 a.2.2.2.2.2.2.1 a.2.2.2.2.2.2.2.1 a.2.2.2.2.2.2.2.2.1 a.2.2.2.2.2.2.2.2.2.1 a.2.2.2.2.2.2.2.2.2.2.1 a.2.2.2.2.2.2.2.2.2.2.2.1 (d4 (d8 a)) n.1 0
 else
 ZcK Z6 c f e i a.2.2.1 a.2.2.2.1 a.2.2.2.2.1 a.2.2.2.2.2.1 a.2.2.2.2.2.2.1 a.2.2.2.2.2.2.2.1 a.2.2.2.2.2.2.2.2.1 a.2.2.2.2.2.2.2.2.2.1 a.2.2.2.2.2.2.2.2.2.2.1 a.2.2.2.2.2.2.2.2.2.2.2.1 (d4 (d8 a)) (E0++[[AV.val (.int .i64 d.1),AV.val (.int .i64 d.2.1),AV.val (.int .i64 d.2.2.1),AV.val (.int .i64 d.2.2.2.1),AV.val (.int .i64 d.2.2.2.2.1),AV.val (.int .i64 d.2.2.2.2.2.1),AV.val (.bool d.2.2.2.2.2.2)]]) 0):=by kernel_rfl
noncomputable def F8:Fn:=⟨29,[2],[(3,[(0,.c (.slice 10)),(3,.c (.slice 13)),(4,.c (.int .i64))])],[],0,[],[],Try.f8,[.c (.slice 10)],[.c (.slice 13)],[(29,F29.S)]⟩
theorem ok8:F8.S.Ok Try.prog 8:=F8.ok Try.func8 (by kernel_rfl) ⟨Zo1,trivial⟩
noncomputable def g8 (a:LL):Option (LL):=F8.S.g [.l a]
noncomputable def Znw (k:Nat) (a b:LL) (c:Int):Option (LL):=F8.lp [0] 0 r0 k [.l a,.l b,.i c]
theorem ZhW (k:Nat) (d b:LL) (c:Int):Znw (k+1) d b c =
 (if (cop .lss c (List.length d:Int)) then
 if (cop .lss c 40) then
 if (cop .lss (List.length b:Int) 24) then
 Zq d c hs7 fun (a:Bool×Int×Int×Int×Int×Int×Int×Int×Int×Bool)=>
 (g29 b a.1 a.2.1 a.2.2.1 a.2.2.2.1 a.2.2.2.2.1 a.2.2.2.2.2.1 a.2.2.2.2.2.2.1 a.2.2.2.2.2.2.2.1 a.2.2.2.2.2.2.2.2.1 a.2.2.2.2.2.2.2.2.2 (iop .add .i64 c 1)).bind fun e=>
 Znw k d e (iop .add .i64 c 1)
 else
 some (b)
 else
 some (b)
 else
 some (b)):=by kernel_rfl
theorem Zn3 (a:LL):g8 a =
 (Znw Z6 a E0 0):=by kernel_rfl
noncomputable def F31:Fn:=⟨32,[4],[],[],0,[],[],Try.f31,[.c (.int .i64),.c (.int .i64)],[.c (.int .i64)],[(6,F6.S)]⟩
theorem ZoS:F31.S.Ok Try.prog 31:=F31.ok Try.func31 (by kernel_rfl) ⟨ok6,trivial⟩
noncomputable def g31 (a b:Int):Option (Int):=F31.S.g [.i a,.i b]
theorem ZmN (c a:Int):g31 c a =
 ((g6 a 3).bind fun d=>
 Zj ((0:Int)≤12)<|
 Zj ((3:Int)≠0)<|
 (g6 (iop .quo .i64 a 3) 4096).bind fun e=>
 if (cop .eql c 32) then
 Zj ((9:Int)≠0)<|
 (g6 (iop .quo .i64 a 9) 3).bind fun b=>
 Zj ((0:Int)≤22)<|
 some ((iop .add .i64 (iop .add .i64 (iop .shl .i64 d 12) e) (iop .shl .i64 b 22)))
 else
 Zj ((9:Int)≠0)<|
 (g6 (iop .quo .i64 a 9) 3).bind fun b=>
 Zj ((0:Int)≤21)<|
 Zj ((27:Int)≠0)<|
 (g6 (iop .quo .i64 a 27) 3).bind fun f=>
 Zj ((0:Int)≤30)<|
 some ((iop .add .i64 (iop .add .i64 (iop .add .i64 (iop .shl .i64 d 12) e) (iop .shl .i64 b 21)) (iop .shl .i64 f 30)))):=by kernel_rfl
noncomputable def F10:Fn:=⟨128,[6],[],[],0,[],[],Try.f10,[.agg [.slice 1,.int .i64,.int .i64,.slice 3,.slice 1],.c (.int .i64),.agg hs8],[.agg hs5],[(6,F6.S),(31,F31.S)]⟩
theorem Zpd:F10.S.Ok Try.prog 10:=F10.ok Try.func10 (by kernel_rfl) ⟨ok6,⟨ZoS,trivial⟩⟩
noncomputable def g10 (a:LL) (b c:Int) (d e:LL) (f h j k m n o p q r:Int):Option (Qt13):=F10.S.g [.l a,.i b,.i c,.l d,.l e,.i f,.i h,.i j,.i k,.i m,.i n,.i o,.i p,.i q,.i r]
theorem Zl9 (j:LL) (x l:Int) (m y:LL) (r s t u v n o k e w:Int):g10 j x l m y r s t u v n o k e w =
 ((g6 s 10).bind fun a=>
 (g6 t l).bind fun c=>
 (g6 u l).bind fun d=>
 (g6 n 8).bind fun f=>
 if (cop .eql (iop .add .i64 1 a) 1) then
 (g6 o (List.length m:Int)).bind fun b=>
 Zq m b [.int .i64,.int .i64,.bool] fun (g:Int×Int×Bool)=>
 (g6 k 3).bind fun h=>
 (g6 e 4).bind fun p=>
 Zj ((0:Int)≤(IntKind.wrap .u64 (iop .add .i64 13 h)))<|
 some ((iop .add .i64 1 a),c,d,0,f,0,(iop .add .i64 13 h),0,(iop .add .i64 g.1 (iop .shl .i64 p (IntKind.wrap .u64 (iop .add .i64 13 h)))),0,0,0)
 else
 if (cop .eql (iop .add .i64 1 a) 2) then
 (g6 o 6).bind fun b=>
 (g6 k 3).bind fun g=>
 Zq ((((((E0++[[AV.val (.int .i64 (iop .add .i64 12 g))]])++[[AV.val (.int .i64 12)]])++[[AV.val (.int .i64 12)]])++[[AV.val (.int .i64 6)]])++[[AV.val (.int .i64 10)]])++[[AV.val (.int .i64 16)]]) (iop .sub .i64 (iop .add .i64 1 b) 1) [.int .i64] fun (i:Int)=>
 (g6 k 3).bind fun q=>
 (g6 w 3).bind fun h=>
 (g6 e 6).bind fun p=>
 Zj ((0:Int)≤(IntKind.wrap .u64 i))<|
 some ((iop .add .i64 1 a),c,d,0,f,(iop .add .i64 1 b),i,q,(iop .shl .i64 p (IntKind.wrap .u64 i)),(iop .add .i64 1 h),0,0)
 else
 if (cop .eql (iop .add .i64 1 a) 4) then
 (g6 v (List.length j:Int)).bind fun b=>
 some ((iop .add .i64 1 a),c,d,b,f,0,0,0,0,0,0,0)
 else
 if (cop .eql (iop .add .i64 1 a) 8) then
 (g6 e 3).bind fun b=>
 some ((iop .add .i64 1 a),c,d,0,f,0,0,0,0,0,b,0)
 else
 if (cop .eql (iop .add .i64 1 a) 9) then
 (g6 e 3).bind fun b=>
 some ((iop .add .i64 1 a),c,d,0,f,0,0,0,0,0,b,0)
 else
 if (cop .eql (iop .add .i64 1 a) 10) then
 (g6 n 4).bind fun b=>
 (g6 r (List.length j:Int)).bind fun g=>
 Zq j g [.int .i64] fun (i:Int)=>
 (g31 i e).bind fun q=>
 some ((iop .add .i64 1 a),c,d,0,b,0,0,0,0,0,0,q)
 else
 some ((iop .add .i64 1 a),c,d,0,f,0,0,0,0,0,0,0)):=by kernel_rfl
noncomputable def F21:Fn:=⟨3,[0],[],[],0,[],[],Try.f21,[],[.c (.own false 46)],[]⟩
theorem Zos:F21.S.Ok Try.prog 21:=F21.ok Try.func21 (by kernel_rfl) trivial
noncomputable def g21:Option (LL):=F21.S.g []
theorem ZjW:g21 =
 (some ((E0++[[AV.val (.int .i64 262144),AV.val (.int .i64 16),AV.val (.bool false)]]))):=by kernel_rfl
noncomputable def F56:Fn:=⟨32,[2],[],[],0,[],[],Try.f56,[.agg [.int .i64,.int .i64]],[.c (.bool)],[]⟩
theorem Zns:F56.S.Ok Try.prog 56:=F56.ok Try.func56 (by kernel_rfl) trivial
noncomputable def g56 (a b:Int):Option (Bool):=F56.S.g [.i a,.i b]
theorem Zly (b a:Int):g56 b a =
 (if (cop .lss a 6) then
 some (false)
 else
 if (cop .gtr a 40) then
 some (false)
 else
 if (cop .lss b 0) then
 some (false)
 else
 Zj ((0:Int)≤a)<|
 Zj (((iop .shl .i64 1 a):Int)≠0)<|
 if (cop .eql (iop .rem .i64 b (iop .shl .i64 1 a)) 0) then
 some ((cop .leq b (iop .sub .i64 1099511627776 (iop .shl .i64 1 a))))
 else
 some (false)):=by kernel_rfl
noncomputable def F68:Fn:=⟨12,[2],[],[],0,[],[],Try.f68,[.agg [.int .i64,.int .i64]],[.c (.int .i64)],[(56,F56.S)]⟩
theorem ZoV:F68.S.Ok Try.prog 68:=F68.ok Try.func68 (by kernel_rfl) ⟨Zns,trivial⟩
noncomputable def g68 (a b:Int):Option (Int):=F68.S.g [.i a,.i b]
theorem ZlG (b a:Int):g68 b a =
 ((g56 b a).bind fun c=>
 if (!c) then
 some (0)
 else
 Zj ((0:Int)≤a)<|
 some ((iop .add .i64 b (iop .shl .i64 1 a)))):=by kernel_rfl
noncomputable def F46:Fn:=⟨25,[4],[],[],0,[],[],Try.f46,[.agg [.int .i64,.int .i64],.agg [.int .i64,.int .i64]],[.c (.bool)],[(56,F56.S),(68,F68.S)]⟩
theorem Zpk:F46.S.Ok Try.prog 46:=F46.ok Try.func46 (by kernel_rfl) ⟨Zns,⟨ZoV,trivial⟩⟩
noncomputable def g46 (a b c d:Int):Option (Bool):=F46.S.g [.i a,.i b,.i c,.i d]
theorem Znb (a c b d:Int):g46 a c b d =
 ((g56 a c).bind fun e=>
 if e then
 (g56 b d).bind fun f=>
 if f then
 if (cop .leq a b) then
 (g68 b d).bind fun g=>
 (g68 a c).bind fun h=>
 some ((cop .leq g h))
 else
 some (false)
 else
 some (false)
 else
 some (false)):=by kernel_rfl
noncomputable def F22:Fn:=⟨24,[4,5],[(2,[(3,.box [.int .i64,.int .i64]),(8,.c (.slice 3)),(9,.c (.int .i64)),(10,.c (.int .i64))])],[],0,[],[],Try.f22,[.c (.slice 3),.agg [.int .i64,.int .i64]],[.c (.int .i64),.c (.bool)],[(46,F46.S)]⟩
theorem Zod:F22.S.Ok Try.prog 22:=F22.ok Try.func22 (by kernel_rfl) ⟨Zpk,trivial⟩
noncomputable def g22 (a:LL) (b c:Int):Option (Int×Bool):=F22.S.g [.l a,.i b,.i c]
noncomputable def Zgd (k:Nat) (a b:Int) (c:LL) (d e:Int):Option (Int×Bool):=F22.lp [0] 0 r0 k [.i a,.i b,.l c,.i d,.i e]
theorem Zfm (k:Nat) (b c:Int) (d:LL) (e a:Int):Zgd (k+1) b c d e a =
 (if (cop .lss a e) then
 Zq d a [.int .i64,.int .i64,.bool] fun (f:Int×Int×Bool)=>
 (g46 f.1 f.2.1 b c).bind fun g=>
 if g then
 some (a,true)
 else
 Zgd k b c d e (iop .add .i64 a 1)
 else
 some (0,false)):=by kernel_rfl
theorem Zmw (a:LL) (b c:Int):g22 a b c =
 (Zgd Z6 b c a (List.length a:Int) 0):=by kernel_rfl
end Go.Proofs.Ytmjkdbpffdampaa
