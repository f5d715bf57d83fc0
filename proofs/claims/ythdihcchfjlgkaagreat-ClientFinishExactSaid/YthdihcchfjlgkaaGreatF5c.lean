/- Functions of the program, as what they compute. -/
import Derived.Test.YthdihcchfjlgkaaGreatF5b
namespace Go.Proofs.YthdihcchfjlgkaaGreat
open Go Go.AM
set_option linter.unusedVariables false
set_option maxRecDepth 100000
noncomputable def F12:Fn:=⟨44,[4],[(3,[(0,.c (.slice 13)),(1,.c (.int .i64)),(5,.c (.own true 62)),(6,.c (.int .i64))])],[],0,[4],[],Tryz.f12,[.c (.slice 13),.c (.int .i64)],[.c (.own true 62)],[(26,F26.S)]⟩
theorem ZBx:F12.S.Ok Tryz.prog 12:=F12.ok Tryz.func12 (by kernel_rfl) ⟨ZpE,trivial⟩
noncomputable def g12 (a:LL) (b:Int):Option (LL):=F12.S.g [.l a,.i b]
noncomputable def Ze7 (k:Nat) (a:LL) (b:Int) (c:LL) (d:Int):Option (LL):=F12.lp [4] 0 r0 k [.l a,.i b,.l c,.i d]
theorem Zj8 (k:Nat) (c:LL) (f:Int) (e:LL) (d:Int):Ze7 (k+1) c f e d =
 (if (cop .lss d (List.length c:Int)) then
 Zl c d hs9 fun (h:Qt14)=>
 if (cop .eql h.1 f) then
 Zl c d hs9 fun (i:Qt14)=>
 if (cop .lss i.2.1 12) then
 Zl c d hs9 fun (g:Qt14)=>
 Zl c d hs9 fun (a:Qt14)=>
 (g26 a.2.2.1 a.2.2.2.1 a.2.2.2.2.1 a.2.2.2.2.2.1 a.2.2.2.2.2.2.1 a.2.2.2.2.2.2.2.1 a.2.2.2.2.2.2.2.2.1 a.2.2.2.2.2.2.2.2.2.1 a.2.2.2.2.2.2.2.2.2.2.1 a.2.2.2.2.2.2.2.2.2.2.2.1 (d4 (d8 a))).bind fun b=>
 ZA ((0:Int)≤g.2.1)<|
 ZA ((g.2.1:Int) < (List.length e:Int))<|
 ZA ((0:Int)≤g.2.1)<|
 ZA ((g.2.1:Int) < (List.length e:Int))<|
 Ze7 k c f (ZE e (Int.toNat g.2.1) 0 [AV.val (.int .i64 b.1),AV.val (.int .i64 b.2.1),AV.val (.int .i64 b.2.2.1),AV.slice false 3 b.2.2.2.1,AV.val (.int .i64 b.2.2.2.2.1),AV.val (.int .i64 b.2.2.2.2.2.1),AV.val (.int .i64 b.2.2.2.2.2.2.1),AV.val (.int .i64 b.2.2.2.2.2.2.2.1),AV.val (.int .i64 b.2.2.2.2.2.2.2.2.1),AV.val (.int .i64 b.2.2.2.2.2.2.2.2.2.1),AV.val (.bool b.2.2.2.2.2.2.2.2.2.2)]) (iop .add .i64 d 1)
 else
 Ze7 k c f e (iop .add .i64 d 1)
 else
 Ze7 k c f e (iop .add .i64 d 1)
 else
 some (e)):=by kernel_rfl
theorem Zvd (a:LL) (b:Int):g12 a b =
 (ZA (Zud 12 136)<|
 ZA ((12:Int)≤12)<|
 ZA ((12:Int)≤12)<|
 Ze7 Zw a b (List.replicate (Int.toNat 12) [AV.val (.int .i64 0),AV.val (.int .i64 0),AV.val (.int .i64 0),AV.slice false 3 E0,AV.val (.int .i64 0),AV.val (.int .i64 0),AV.val (.int .i64 0),AV.val (.int .i64 0),AV.val (.int .i64 0),AV.val (.int .i64 0),AV.val (.bool false),AV.val (.int .i64 0),AV.val (.int .i64 0),AV.val (.int .i64 0),AV.val (.int .i64 0)]) 0):=by kernel_rfl
noncomputable def F21:Fn:=⟨17,[4],[],[],0,[],[],Tryz.f21,[.c (.slice 1),.c (.int .i64)],[.c (.int .i64)],[]⟩
theorem Zuo:F21.S.Ok Tryz.prog 21:=F21.ok Tryz.func21 (by kernel_rfl) trivial
noncomputable def g21 (a:LL) (b:Int):Option (Int):=F21.S.g [.l a,.i b]
theorem Zs6 (b:LL) (a:Int):g21 b a =
 (if (cop .lss a 0) then
 some (0)
 else
 if (cop .geq a (List.length b:Int)) then
 some (0)
 else
 Zl b a [.int .i64] fun (c:Int)=>
 some (c)):=by kernel_rfl
noncomputable def F8:Fn:=⟨16,[4],[],[],0,[],[],Tryz.f8,[.c (.int .i64),.c (.int .i64)],[.c (.int .i64)],[]⟩
theorem ok8:F8.S.Ok Tryz.prog 8:=F8.ok Tryz.func8 (by kernel_rfl) trivial
noncomputable def g8 (a b:Int):Option (Int):=F8.S.g [.i a,.i b]
theorem Zzz (b a:Int):g8 b a =
 (if (cop .lss a 1) then
 some (0)
 else
 ZA ((a:Int)≠0)<|
 if (cop .lss (iop .rem .i64 b a) 0) then
 some ((iop .add .i64 (iop .rem .i64 b a) a))
 else
 some ((iop .rem .i64 b a))):=by kernel_rfl
noncomputable def F22:Fn:=⟨10,[2],[],[],0,[],[],Tryz.f22,[.c (.int .i64)],[.agg [.int .i64,.int .i64,.int .i64]],[(8,F8.S)]⟩
theorem ZyQ:F22.S.Ok Tryz.prog 22:=F22.ok Tryz.func22 (by kernel_rfl) ⟨ok8,trivial⟩
noncomputable def g22 (a:Int):Option (Int×Int×Int):=F22.S.g [.i a]
theorem Zth (a:Int):g22 a =
 ((g8 a 4).bind fun b=>
 ZA ((4:Int)≠0)<|
 (g8 (iop .quo .i64 a 4) 20).bind fun c=>
 some (b,(iop .add .i64 1 c),0)):=by kernel_rfl
noncomputable def F24:Fn:=⟨12,[4],[],[],0,[],[],Tryz.f24,[.c (.slice 1),.c (.int .i64)],[.c (.slice 1)],[]⟩
theorem Zxs:F24.S.Ok Tryz.prog 24:=F24.ok Tryz.func24 (by kernel_rfl) trivial
noncomputable def g24 (a:LL) (b:Int):Option (LL):=F24.S.g [.l a,.i b]
theorem Zvp (b:LL) (a:Int):g24 b a =
 (if (cop .geq a (List.length b:Int)) then
 some (E0)
 else
 ZA ((0:Int)≤a)<|
 ZA ((a:Int)≤(List.length b:Int))<|
 some ((List.drop (Int.toNat a) b))):=by kernel_rfl
noncomputable def F23:Fn:=⟨69,[4],[],[],0,[],[],Tryz.f23,[.c (.slice 1),.agg hs10],[.agg hs3],[(21,F21.S),(22,F22.S),(8,F8.S),(26,F26.S)]⟩
theorem ZzX:F23.S.Ok Tryz.prog 23:=F23.ok Tryz.func23 (by kernel_rfl) ⟨Zuo,⟨ZyQ,⟨ok8,⟨ZpE,trivial⟩⟩⟩⟩
noncomputable def g23 (a:LL) (c d e:Int) (f:LL) (h j k m n o:Int) (p:Bool):Option (Qt7):=F23.S.g [.l a,.i c,.i d,.i e,.l f,.i h,.i j,.i k,.i m,.i n,.i o,.b p]
theorem Zvm (a:LL) (e f g:Int) (h:LL) (i j k l m n:Int) (o:Bool):g23 a e f g h i j k l m n o =
 ((g21 a 0).bind fun D=>
 (g22 D).bind fun c=>
 (g21 a 1).bind fun E=>
 (g8 E 3).bind fun p=>
 (g21 a 2).bind fun G=>
 (g8 G 2).bind fun H=>
 Zl ((E0++[[AV.val (.int .i64 32)]])++[[AV.val (.int .i64 39)]]) H [.int .i64] fun (q:Int)=>
 (g26 e f g h i j k l m n o).bind fun b=>
 (g21 a 3).bind fun J=>
 (g8 J 6).bind fun d=>
 (g21 a 4).bind fun K=>
 (g8 K 8).bind fun r=>
 (g21 a 5).bind fun L=>
 (g8 L 8).bind fun s=>
 (g21 a 6).bind fun M=>
 (g8 M 4).bind fun t=>
 (g21 a 7).bind fun N=>
 (g8 N 8).bind fun u=>
 (g21 a 8).bind fun O=>
 (g8 O 6).bind fun v=>
 (g21 a 9).bind fun P=>
 (g8 P 3).bind fun w=>
 (g21 a 10).bind fun Q=>
 (g8 Q 2).bind fun x=>
 (g21 a 11).bind fun R=>
 (g8 R 8).bind fun y=>
 ZA ((0:Int)≤12)<|
 (g21 a 12).bind fun T=>
 (g8 T 3).bind fun z=>
 (g21 a 13).bind fun A=>
 (g21 a 14).bind fun C=>
 if (cop .eql (iop .add .i64 1 d) 1) then
 some (c.1,c.2.1,c.2.2,(iop .add .i64 1 d),r,s,t,u,(iop .add .i64 1 v),(iop .add .i64 12 w),x,(iop .shl .i64 y 12),(iop .add .i64 1 z),A,C,p,q,0,0,0,E0,0,0,0,0,0,0,false)
 else
 some (c.1,c.2.1,c.2.2,(iop .add .i64 1 d),r,s,t,u,(iop .add .i64 1 v),(iop .add .i64 12 w),x,(iop .shl .i64 y 12),(iop .add .i64 1 z),A,C,p,q,b.1,b.2.1,b.2.2.1,b.2.2.2.1,b.2.2.2.2.1,b.2.2.2.2.2.1,b.2.2.2.2.2.2.1,b.2.2.2.2.2.2.2.1,b.2.2.2.2.2.2.2.2.1,b.2.2.2.2.2.2.2.2.2.1,b.2.2.2.2.2.2.2.2.2.2)):=by kernel_rfl
noncomputable def F9:Fn:=⟨203,[6],[(3,[(0,.c (.slice 1)),(1,.c (.slice 13)),(6,.box hs19),(7,.box hs18),(8,.c (.int .i64))]),(10,[(0,.c (.slice 1)),(1,.c (.slice 13)),(6,.box hs19),(7,.box hs18),(9,.c (.int .i64))]),(17,[(0,.c (.slice 1)),(1,.c (.slice 13)),(6,.box hs19),(7,.box hs18),(12,.c (.int .i64))]),(22,[(0,.c (.slice 1)),(1,.c (.slice 13)),(6,.box hs19),(7,.box hs18),(14,.c (.int .i64))]),(27,[(0,.c (.slice 1)),(1,.c (.slice 13)),(6,.box hs19),(7,.box hs18),(16,.c (.int .i64))])],[],0,[],[(33,[(7,1)])],Tryz.f9,[.c (.slice 1),.c (.slice 13),.c (.int .i64)],[.agg hs19],[(12,F12.S),(21,F21.S),(8,F8.S),(13,F13.S),(22,F22.S),(24,F24.S),(23,F23.S),(25,F25.S)]⟩
theorem ok9:F9.S.Ok Tryz.prog 9:=F9.ok Tryz.func9 (by kernel_rfl) ⟨ZBx,⟨Zuo,⟨ok8,⟨Zs0,⟨ZyQ,⟨Zxs,⟨ZzX,⟨Zzy,trivial⟩⟩⟩⟩⟩⟩⟩⟩
noncomputable def g9 (a b:LL) (c:Int):Option (Qt22):=F9.S.g [.l a,.l b,.i c]
noncomputable def ZsT (k:Nat) (a b c d e f g h j m n o p q:LL) (r:Int):Option (Qt22):=F9.lp [2,1,4,1,3,1,3,1,0] 0 r0 k [.l a,.l b,.l c,.l d,.l e,.l f,.l g,.l h,.l j,.l m,.l n,.l o,.l p,.l q,.i r]
theorem ZqP (k:Nat) (f g m n o p q r h i j l b c:LL) (d:Int):ZsT (k+1) f g m n o p q r h i j l b c d =
 ((g21 f 18).bind fun s=>
 (g8 s 3).bind fun t=>
 if (cop .lss d t) then
 if (cop .lss d (List.length g:Int)) then
 ZA (Jy E0 b 120)<|
 Zl g d hs9 fun (a:Qt14)=>
 ZA (Jy b (E0++[[AV.val (.int .i64 a.1),AV.val (.int .i64 a.2.1),AV.val (.int .i64 a.2.2.1),AV.val (.int .i64 a.2.2.2.1),AV.val (.int .i64 a.2.2.2.2.1),AV.slice false 3 a.2.2.2.2.2.1,AV.val (.int .i64 a.2.2.2.2.2.2.1),AV.val (.int .i64 a.2.2.2.2.2.2.2.1),AV.val (.int .i64 a.2.2.2.2.2.2.2.2.1),AV.val (.int .i64 a.2.2.2.2.2.2.2.2.2.1),AV.val (.int .i64 a.2.2.2.2.2.2.2.2.2.2.1),AV.val (.int .i64 a.2.2.2.2.2.2.2.2.2.2.2.1),AV.val (.bool (d4 (d8 a)))]]) 120)<|
 ZA (Jy E0 c 24)<|
 (g21 f (iop .add .i64 19 d)).bind fun u=>
 (g22 u).bind fun e=>
 ZA (Jy c (E0++[[AV.val (.int .i64 e.1),AV.val (.int .i64 e.2.1),AV.val (.int .i64 e.2.2)]]) 24)<|
 ZsT k f g m n o p q r h i j l (b++(E0++[[AV.val (.int .i64 a.1),AV.val (.int .i64 a.2.1),AV.val (.int .i64 a.2.2.1),AV.val (.int .i64 a.2.2.2.1),AV.val (.int .i64 a.2.2.2.2.1),AV.slice false 3 a.2.2.2.2.2.1,AV.val (.int .i64 a.2.2.2.2.2.2.1),AV.val (.int .i64 a.2.2.2.2.2.2.2.1),AV.val (.int .i64 a.2.2.2.2.2.2.2.2.1),AV.val (.int .i64 a.2.2.2.2.2.2.2.2.2.1),AV.val (.int .i64 a.2.2.2.2.2.2.2.2.2.2.1),AV.val (.int .i64 a.2.2.2.2.2.2.2.2.2.2.2.1),AV.val (.bool (d4 (d8 a)))]])) (c++(E0++[[AV.val (.int .i64 e.1),AV.val (.int .i64 e.2.1),AV.val (.int .i64 e.2.2)]])) (iop .add .i64 d 1)
 else
 some (h,i,j,l,b,c)
 else
 some (h,i,j,l,b,c)):=by kernel_rfl
noncomputable def ZsG (k:Nat) (a b c d e f g h j m n o p q:LL) (r:Int):Option (Qt22):=F9.lp [2,1,4,1,3,1,0] 0 r0 k [.l a,.l b,.l c,.l d,.l e,.l f,.l g,.l h,.l j,.l m,.l n,.l o,.l p,.l q,.i r]
theorem ZqH (k:Nat) (b d e f g h i j l m n c o p:LL) (a:Int):ZsG (k+1) b d e f g h i j l m n c o p a =
 ((g21 b 16).bind fun r=>
 (g8 r 3).bind fun s=>
 if (cop .lss a s) then
 ZA (Jy E0 c 16)<|
 (g21 b (iop .add .i64 17 a)).bind fun t=>
 (g8 t 20).bind fun q=>
 ZA (Jy c (E0++[[AV.val (.int .i64 (iop .add .i64 a 1)),AV.val (.int .i64 q)]]) 16)<|
 ZsG k b d e f g h i j l m n (c++(E0++[[AV.val (.int .i64 (iop .add .i64 a 1)),AV.val (.int .i64 q)]])) o p (iop .add .i64 a 1)
 else
 ZsT Zw b d e f g h i j l m n c o p 0):=by kernel_rfl
noncomputable def ZrU (k:Nat) (a b c d e f g h j m n o p q:LL) (r:Int):Option (Qt22):=F9.lp [2,1,4,1,0] 0 r0 k [.l a,.l b,.l c,.l d,.l e,.l f,.l g,.l h,.l j,.l m,.l n,.l o,.l p,.l q,.i r]
theorem ZrL (k:Nat) (c e f g h i j l m n d o p q:LL) (a:Int):ZrU (k+1) c e f g h i j l m n d o p q a =
 ((g21 c 14).bind fun r=>
 (g8 r 3).bind fun s=>
 if (cop .lss a s) then
 ZA (Jy E0 d 32)<|
 (g21 c (iop .add .i64 15 a)).bind fun t=>
 (g22 t).bind fun b=>
 ZA (Jy d (E0++[[AV.val (.int .i64 a),AV.val (.int .i64 b.1),AV.val (.int .i64 b.2.1),AV.val (.int .i64 b.2.2)]]) 32)<|
 ZrU k c e f g h i j l m n (d++(E0++[[AV.val (.int .i64 a),AV.val (.int .i64 b.1),AV.val (.int .i64 b.2.1),AV.val (.int .i64 b.2.2)]])) o p q (iop .add .i64 a 1)
 else
 ZsG Zw c e f g h i j l m n d o p q 0):=by kernel_rfl
noncomputable def Zpl (k:Nat) (a b c d e f g h j m n o p q:LL) (r:Int):Option (Qt22):=F9.lp [2,1,0] 0 r0 k [.l a,.l b,.l c,.l d,.l e,.l f,.l g,.l h,.l j,.l m,.l n,.l o,.l p,.l q,.i r]
theorem Zr5 (k:Nat) (d e g h i j l m n b o p q r:LL) (f:Int):Zpl (k+1) d e g h i j l m n b o p q r f =
 ((g21 d 12).bind fun t=>
 (g8 t 3).bind fun u=>
 if (cop .lss f u) then
 if (cop .gtr (List.length e:Int) 0) then
 (g24 d (iop .add .i64 13 f)).bind fun v=>
 (g21 d f).bind fun w=>
 (g8 w (List.length e:Int)).bind fun x=>
 Zl e x hs9 fun (c:Qt14)=>
 (g23 v c.2.2.1 c.2.2.2.1 c.2.2.2.2.1 c.2.2.2.2.2.1 c.2.2.2.2.2.2.1 c.2.2.2.2.2.2.2.1 c.2.2.2.2.2.2.2.2.1 c.2.2.2.2.2.2.2.2.2.1 c.2.2.2.2.2.2.2.2.2.2.1 c.2.2.2.2.2.2.2.2.2.2.2.1 (d4 (d8 c))).bind fun a=>
 if (cop .eql (List.length b:Int) 0) then
 ZA (Jy E0 b 240)<|
 ZA (Jy b (E0++[[I a.1,I a.2.1,I a.2.2.1,I a.2.2.2.1,I a.2.2.2.2.1,I a.2.2.2.2.2.1,I a.2.2.2.2.2.2.1,I a.2.2.2.2.2.2.2.1,I a.2.2.2.2.2.2.2.2.1,I a.2.2.2.2.2.2.2.2.2.1,I a.2.2.2.2.2.2.2.2.2.2.1,I a.2.2.2.2.2.2.2.2.2.2.2.1,AV.val (.int .i64 (d4 (d8 a)).1),AV.val (.int .i64 (d4 (d8 a)).2.1),AV.val (.int .i64 (d2 (d4 (d8 a))).1),AV.val (.int .i64 (d2 (d4 (d8 a))).2.1),AV.val (.int .i64 (d16 a).1),AV.val (.int .i64 (d16 a).2.1),AV.val (.int .i64 (d2 (d16 a)).1),AV.val (.int .i64 (d2 (d16 a)).2.1),AV.slice false 3 (d4 (d16 a)).1,AV.val (.int .i64 (d4 (d16 a)).2.1),AV.val (.int .i64 (d2 (d4 (d16 a))).1),AV.val (.int .i64 (d2 (d4 (d16 a))).2.1),AV.val (.int .i64 (d8 (d16 a)).1),AV.val (.int .i64 (d8 (d16 a)).2.1),AV.val (.int .i64 (d2 (d8 (d16 a))).1),AV.val (.bool (d2 (d8 (d16 a))).2)]]) 240)<|
 Zpl k d e g h i j l m n (b++(E0++[[I a.1,I a.2.1,I a.2.2.1,I a.2.2.2.1,I a.2.2.2.2.1,I a.2.2.2.2.2.1,I a.2.2.2.2.2.2.1,I a.2.2.2.2.2.2.2.1,I a.2.2.2.2.2.2.2.2.1,I a.2.2.2.2.2.2.2.2.2.1,I a.2.2.2.2.2.2.2.2.2.2.1,I a.2.2.2.2.2.2.2.2.2.2.2.1,AV.val (.int .i64 (d4 (d8 a)).1),AV.val (.int .i64 (d4 (d8 a)).2.1),AV.val (.int .i64 (d2 (d4 (d8 a))).1),AV.val (.int .i64 (d2 (d4 (d8 a))).2.1),AV.val (.int .i64 (d16 a).1),AV.val (.int .i64 (d16 a).2.1),AV.val (.int .i64 (d2 (d16 a)).1),AV.val (.int .i64 (d2 (d16 a)).2.1),AV.slice false 3 (d4 (d16 a)).1,AV.val (.int .i64 (d4 (d16 a)).2.1),AV.val (.int .i64 (d2 (d4 (d16 a))).1),AV.val (.int .i64 (d2 (d4 (d16 a))).2.1),AV.val (.int .i64 (d8 (d16 a)).1),AV.val (.int .i64 (d8 (d16 a)).2.1),AV.val (.int .i64 (d2 (d8 (d16 a))).1),AV.val (.bool (d2 (d8 (d16 a))).2)]])) o p q r (iop .add .i64 f 1)
 else
 Zl b (iop .sub .i64 (List.length b:Int) 1) hs3 fun (s:Qt7)=>
 (g25 s.1 s.2.1 s.2.2.1 a.1 a.2.1 a.2.2.1).bind fun y=>
 if y then
 ZA (Jy E0 b 240)<|
 ZA (Jy b (E0++[[I a.1,I a.2.1,I a.2.2.1,I a.2.2.2.1,I a.2.2.2.2.1,I a.2.2.2.2.2.1,I a.2.2.2.2.2.2.1,I a.2.2.2.2.2.2.2.1,I a.2.2.2.2.2.2.2.2.1,I a.2.2.2.2.2.2.2.2.2.1,I a.2.2.2.2.2.2.2.2.2.2.1,I a.2.2.2.2.2.2.2.2.2.2.2.1,AV.val (.int .i64 (d4 (d8 a)).1),AV.val (.int .i64 (d4 (d8 a)).2.1),AV.val (.int .i64 (d2 (d4 (d8 a))).1),AV.val (.int .i64 (d2 (d4 (d8 a))).2.1),AV.val (.int .i64 (d16 a).1),AV.val (.int .i64 (d16 a).2.1),AV.val (.int .i64 (d2 (d16 a)).1),AV.val (.int .i64 (d2 (d16 a)).2.1),AV.slice false 3 (d4 (d16 a)).1,AV.val (.int .i64 (d4 (d16 a)).2.1),AV.val (.int .i64 (d2 (d4 (d16 a))).1),AV.val (.int .i64 (d2 (d4 (d16 a))).2.1),AV.val (.int .i64 (d8 (d16 a)).1),AV.val (.int .i64 (d8 (d16 a)).2.1),AV.val (.int .i64 (d2 (d8 (d16 a))).1),AV.val (.bool (d2 (d8 (d16 a))).2)]]) 240)<|
 Zpl k d e g h i j l m n (b++(E0++[[I a.1,I a.2.1,I a.2.2.1,I a.2.2.2.1,I a.2.2.2.2.1,I a.2.2.2.2.2.1,I a.2.2.2.2.2.2.1,I a.2.2.2.2.2.2.2.1,I a.2.2.2.2.2.2.2.2.1,I a.2.2.2.2.2.2.2.2.2.1,I a.2.2.2.2.2.2.2.2.2.2.1,I a.2.2.2.2.2.2.2.2.2.2.2.1,AV.val (.int .i64 (d4 (d8 a)).1),AV.val (.int .i64 (d4 (d8 a)).2.1),AV.val (.int .i64 (d2 (d4 (d8 a))).1),AV.val (.int .i64 (d2 (d4 (d8 a))).2.1),AV.val (.int .i64 (d16 a).1),AV.val (.int .i64 (d16 a).2.1),AV.val (.int .i64 (d2 (d16 a)).1),AV.val (.int .i64 (d2 (d16 a)).2.1),AV.slice false 3 (d4 (d16 a)).1,AV.val (.int .i64 (d4 (d16 a)).2.1),AV.val (.int .i64 (d2 (d4 (d16 a))).1),AV.val (.int .i64 (d2 (d4 (d16 a))).2.1),AV.val (.int .i64 (d8 (d16 a)).1),AV.val (.int .i64 (d8 (d16 a)).2.1),AV.val (.int .i64 (d2 (d8 (d16 a))).1),AV.val (.bool (d2 (d8 (d16 a))).2)]])) o p q r (iop .add .i64 f 1)
 else
 Zpl k d e g h i j l m n b o p q r (iop .add .i64 f 1)
 else
 ZrU Zw d e g h i j l m n b o p q r 0
 else
 ZrU Zw d e g h i j l m n b o p q r 0):=by kernel_rfl
noncomputable def ZkL (k:Nat) (a b c d e f g h j m n o p q:LL) (r:Int):Option (Qt22):=F9.lp [2] 0 r0 k [.l a,.l b,.l c,.l d,.l e,.l f,.l g,.l h,.l j,.l m,.l n,.l o,.l p,.l q,.i r]
theorem Zsv (k:Nat) (d f g h i j l m b n o p q r:LL) (a:Int):ZkL (k+1) d f g h i j l m b n o p q r a =
 (if (cop .lss a (List.length b:Int)) then
 (g21 d a).bind fun t=>
 (g8 t 5).bind fun u=>
 if (cop .eql u 4) then
 ZA ((0:Int)≤a)<|
 ZA ((a:Int) < (List.length b:Int))<|
 Zl b a hs8 fun (c:Qt13)=>
 (g13 c.1 c.2.1 c.2.2.1 c.2.2.2.1 c.2.2.2.2.1 c.2.2.2.2.2.1 c.2.2.2.2.2.2.1 c.2.2.2.2.2.2.2.1 c.2.2.2.2.2.2.2.2.1 c.2.2.2.2.2.2.2.2.2.1 c.2.2.2.2.2.2.2.2.2.2.1 c.2.2.2.2.2.2.2.2.2.2.2.1 (d4 (d8 c)).1 (d4 (d8 c)).2.1 (d2 (d4 (d8 c)))).bind fun v=>
 if (!v) then
 (g21 d a).bind fun s=>
 ZA ((5:Int)≠0)<|
 (g22 (iop .quo .i64 s 5)).bind fun e=>
 ZA ((0:Int)≤a)<|
 ZA ((a:Int) < (List.length b:Int))<|
 ZA ((0:Int)≤a)<|
 ZA ((a:Int) < (List.length b:Int))<|
 (g21 d a).bind fun w=>
 (g8 w 7).bind fun x=>
 if (cop .eql x 6) then
 (g21 d a).bind fun y=>
 ZA ((7:Int)≠0)<|
 (g8 (iop .quo .i64 y 7) 20).bind fun z=>
 ZA ((0:Int)≤a)<|
 ZA ((a:Int) < (List.length (ZE b (Int.toNat a) 12 [AV.val (.int .i64 e.1),AV.val (.int .i64 e.2.1),AV.val (.int .i64 e.2.2)]):Int))<|
 ZA ((0:Int)≤a)<|
 ZA ((a:Int) < (List.length (ZE b (Int.toNat a) 12 [AV.val (.int .i64 e.1),AV.val (.int .i64 e.2.1),AV.val (.int .i64 e.2.2)]):Int))<|
 ZkL k d f g h i j l m (ZE (ZE b (Int.toNat a) 12 [AV.val (.int .i64 e.1),AV.val (.int .i64 e.2.1),AV.val (.int .i64 e.2.2)]) (Int.toNat a) 11 [AV.val (.int .i64 (iop .add .i64 1 z))]) n o p q r (iop .add .i64 a 1)
 else
 ZkL k d f g h i j l m (ZE b (Int.toNat a) 12 [AV.val (.int .i64 e.1),AV.val (.int .i64 e.2.1),AV.val (.int .i64 e.2.2)]) n o p q r (iop .add .i64 a 1)
 else
 (g21 d a).bind fun s=>
 (g8 s 7).bind fun e=>
 if (cop .eql e 6) then
 (g21 d a).bind fun A=>
 ZA ((7:Int)≠0)<|
 (g8 (iop .quo .i64 A 7) 20).bind fun C=>
 ZA ((0:Int)≤a)<|
 ZA ((a:Int) < (List.length b:Int))<|
 ZA ((0:Int)≤a)<|
 ZA ((a:Int) < (List.length b:Int))<|
 ZkL k d f g h i j l m (ZE b (Int.toNat a) 11 [AV.val (.int .i64 (iop .add .i64 1 C))]) n o p q r (iop .add .i64 a 1)
 else
 ZkL k d f g h i j l m b n o p q r (iop .add .i64 a 1)
 else
 (g21 d a).bind fun c=>
 (g8 c 7).bind fun D=>
 if (cop .eql D 6) then
 (g21 d a).bind fun E=>
 ZA ((7:Int)≠0)<|
 (g8 (iop .quo .i64 E 7) 20).bind fun G=>
 ZA ((0:Int)≤a)<|
 ZA ((a:Int) < (List.length b:Int))<|
 ZA ((0:Int)≤a)<|
 ZA ((a:Int) < (List.length b:Int))<|
 ZkL k d f g h i j l m (ZE b (Int.toNat a) 11 [AV.val (.int .i64 (iop .add .i64 1 G))]) n o p q r (iop .add .i64 a 1)
 else
 ZkL k d f g h i j l m b n o p q r (iop .add .i64 a 1)
 else
 Zpl Zw d f g h i j l m b n o p q r 0):=by kernel_rfl
theorem Zyf (b a:LL) (c:Int):g9 b a c =
 ((g12 a c).bind fun d=>
 ZkL Zw b a E0 E0 E0 E0 E0 E0 d E0 E0 E0 E0 E0 0):=by kernel_rfl
noncomputable def F57:Fn:=⟨15,[6],[],[],0,[],[],Tryz.f57,[.c (.int .i64),.c (.int .i64),.c (.int .i64)],[.agg [.int .i64,.int .i64,.int .i64]],[(8,F8.S)]⟩
theorem ZA3:F57.S.Ok Tryz.prog 57:=F57.ok Tryz.func57 (by kernel_rfl) ⟨ok8,trivial⟩
noncomputable def g57 (a b c:Int):Option (Int×Int×Int):=F57.S.g [.i a,.i b,.i c]
theorem ZvY (a b c:Int):g57 a b c =
 ((g8 a 4).bind fun d=>
 (g8 b 12).bind fun e=>
 (g8 c 3).bind fun f=>
 some (d,(iop .add .i64 1 e),f)):=by kernel_rfl
noncomputable def F27:Fn:=⟨41,[2],[(3,[(0,.c (.slice 1)),(3,.c (.own false 25)),(4,.c (.int .i64))])],[],0,[],[],Tryz.f27,[.c (.slice 1)],[.c (.own false 25)],[(57,F57.S),(58,F58.S)]⟩
theorem ZBo:F27.S.Ok Tryz.prog 27:=F27.ok Tryz.func27 (by kernel_rfl) ⟨ZA3,⟨Zxm,trivial⟩⟩
noncomputable def g27 (a:LL):Option (LL):=F27.S.g [.l a]
noncomputable def ZhP (k:Nat) (a b:LL) (c:Int):Option (LL):=F27.lp [0] 0 r0 k [.l a,.l b,.i c]
theorem Zi5 (k:Nat) (c b:LL) (d:Int):ZhP (k+1) c b d =
 (if (cop .lss d (List.length c:Int)) then
 if (cop .lss (List.length b:Int) 8) then
 Zl c d [.int .i64] fun (e:Int)=>
 Zl c d [.int .i64] fun (f:Int)=>
 ZA ((4:Int)≠0)<|
 Zl c d [.int .i64] fun (g:Int)=>
 ZA ((48:Int)≠0)<|
 (g57 e (iop .quo .i64 f 4) (iop .quo .i64 g 48)).bind fun a=>
 (g58 b a.1 a.2.1 a.2.2).bind fun h=>
 if (!h) then
 ZA (Jy b (E0++[[AV.val (.int .i64 a.1),AV.val (.int .i64 a.2.1),AV.val (.int .i64 a.2.2)]]) 24)<|
 ZhP k c (b++(E0++[[AV.val (.int .i64 a.1),AV.val (.int .i64 a.2.1),AV.val (.int .i64 a.2.2)]])) (iop .add .i64 d 1)
 else
 ZhP k c b (iop .add .i64 d 1)
 else
 some (b)
 else
 some (b)):=by kernel_rfl
theorem Zua (a:LL):g27 a =
 (ZhP Zw a E0 0):=by kernel_rfl
noncomputable def F28:Fn:=⟨20,[2],[(3,[(0,.c (.int .i64)),(3,.c (.own false 3)),(4,.c (.int .i64))])],[],0,[],[],Tryz.f28,[.c (.int .i64)],[.c (.own false 3)],[(8,F8.S)]⟩
theorem ZAK:F28.S.Ok Tryz.prog 28:=F28.ok Tryz.func28 (by kernel_rfl) ⟨ok8,trivial⟩
noncomputable def g28 (a:Int):Option (LL):=F28.S.g [.i a]
noncomputable def Zk3 (k:Nat) (a:Int) (b:LL) (c:Int):Option (LL):=F28.lp [0] 0 r0 k [.i a,.l b,.i c]
theorem Zn3 (k:Nat) (c:Int) (b:LL) (a:Int):Zk3 (k+1) c b a =
 (if (cop .lss a 4) then
 ZA ((0:Int)≤(IntKind.wrap .u64 a))<|
 (g8 (iop .shr .i64 c (IntKind.wrap .u64 a)) 2).bind fun d=>
 if (cop .eql d 1) then
 ZA (Jy b (E0++[[AV.val (.int .i64 a)]]) 8)<|
 Zk3 k c (b++(E0++[[AV.val (.int .i64 a)]])) (iop .add .i64 a 1)
 else
 Zk3 k c b (iop .add .i64 a 1)
 else
 some (b)):=by kernel_rfl
theorem Zu0 (a:Int):g28 a =
 (Zk3 Zw a E0 0):=by kernel_rfl
noncomputable def F30:Fn:=⟨58,[2],[(3,[(0,.c (.slice 1)),(2,.box [.int .i64,.slice 1,.slice 1]),(3,.box [.int .i64,.slice 1,.slice 1]),(4,.c (.int .i64))]),(10,[(0,.c (.slice 1)),(2,.box [.int .i64,.slice 1,.slice 1]),(3,.box [.int .i64,.slice 1,.slice 1]),(7,.c (.int .i64))])],[],0,[],[],Tryz.f30,[.c (.slice 1)],[.agg [.int .i64,.slice 1,.slice 1]],[(21,F21.S),(8,F8.S),(59,F59.S)]⟩
theorem Zz3:F30.S.Ok Tryz.prog 30:=F30.ok Tryz.func30 (by kernel_rfl) ⟨Zuo,⟨ok8,⟨Zz8,trivial⟩⟩⟩
noncomputable def g30 (a:LL):Option (Int×LL×LL):=F30.S.g [.l a]
noncomputable def ZkD (k:Nat) (a:LL) (b:Int) (c d:LL) (e:Int) (f g:LL) (h:Int):Option (Int×LL×LL):=F30.lp [5,1,0] 0 r0 k [.l a,.i b,.l c,.l d,.i e,.l f,.l g,.i h]
theorem ZnI (k:Nat) (b:LL) (f:Int) (g h:LL) (d:Int) (e a:LL) (c:Int):ZkD (k+1) b f g h d e a c =
 ((g21 b 6).bind fun j=>
 (g8 j 3).bind fun l=>
 if (cop .lss c l) then
 ZA (Jy E0 a 8)<|
 (g21 b (iop .add .i64 7 c)).bind fun m=>
 (g8 m 4).bind fun i=>
 ZA (Jy a (E0++[[AV.val (.int .i64 i)]]) 8)<|
 ZkD k b f g h d e (a++(E0++[[AV.val (.int .i64 i)]])) (iop .add .i64 c 1)
 else
 some (d,e,a)):=by kernel_rfl
noncomputable def Zla (k:Nat) (a:LL) (b:Int) (c d:LL) (e:Int) (f g:LL) (h:Int):Option (Int×LL×LL):=F30.lp [3] 0 r0 k [.l a,.i b,.l c,.l d,.i e,.l f,.l g,.i h]
theorem ZnS (k:Nat) (b:LL) (d:Int) (e f:LL) (g:Int) (a h:LL) (c:Int):Zla (k+1) b d e f g a h c =
 ((g21 b 1).bind fun j=>
 (g8 j 4).bind fun l=>
 if (cop .lss c l) then
 (g21 b (iop .add .i64 2 c)).bind fun m=>
 (g8 m 4).bind fun i=>
 (g59 a i).bind fun n=>
 if (!n) then
 ZA (Jy E0 a 8)<|
 ZA (Jy a (E0++[[AV.val (.int .i64 i)]]) 8)<|
 Zla k b d e f g (a++(E0++[[AV.val (.int .i64 i)]])) h (iop .add .i64 c 1)
 else
 Zla k b d e f g a h (iop .add .i64 c 1)
 else
 ZkD Zw b d e f g a h 0):=by kernel_rfl
theorem ZuE (a:LL):g30 a =
 ((g21 a 0).bind fun b=>
 (g8 b 200).bind fun c=>
 Zla Zw a 0 E0 E0 c E0 E0 0):=by kernel_rfl
noncomputable def F29:Fn:=⟨37,[4],[],[],0,[],[],Tryz.f29,[.c (.slice 1),.c (.slice 13)],[.agg hs4],[(21,F21.S),(8,F8.S),(24,F24.S),(30,F30.S),(9,F9.S)]⟩
theorem ZBK:F29.S.Ok Tryz.prog 29:=F29.ok Tryz.func29 (by kernel_rfl) ⟨Zuo,⟨ok8,⟨Zxs,⟨Zz3,⟨ok9,trivial⟩⟩⟩⟩⟩
noncomputable def g29 (a b:LL):Option (Qt11):=F29.S.g [.l a,.l b]
theorem ZtI (b f:LL):g29 b f =
 ((g21 b 0).bind fun h=>
 (g8 h 4).bind fun e=>
 (g24 b 1).bind fun i=>
 (g30 i).bind fun c=>
 (g24 b 2).bind fun j=>
 (g9 j f e).bind fun a=>
 (g21 b 3).bind fun k=>
 (g8 k 2).bind fun l=>
 if (cop .eql l 1) then
 (g24 b 4).bind fun m=>
 (g30 m).bind fun g=>
 (g24 b 5).bind fun n=>
 (g9 n f e).bind fun d=>
 some (e,c.1,c.2.1,c.2.2,a.1,a.2.1,a.2.2.1,a.2.2.2.1,a.2.2.2.2.1,a.2.2.2.2.2,true,g.1,g.2.1,g.2.2,d.1,d.2.1,d.2.2.1,d.2.2.2.1,d.2.2.2.2.1,d.2.2.2.2.2)
 else
 some (e,c.1,c.2.1,c.2.2,a.1,a.2.1,a.2.2.1,a.2.2.2.1,a.2.2.2.2.1,a.2.2.2.2.2,false,0,E0,E0,E0,E0,E0,E0,E0,E0)):=by kernel_rfl
noncomputable def F10:Fn:=⟨199,[6],[(18,[(1,.c (.slice 1)),(2,.c (.slice 13)),(6,.box hs0),(7,.box hs0),(9,.c (.int .i64))]),(41,[(1,.c (.slice 1)),(6,.box hs0),(7,.box hs0),(11,.c (.int .i64))])],[],0,[],[],Tryz.f10,[.c (.int .i64),.c (.slice 1),.c (.slice 13)],[.agg hs0],[(8,F8.S),(21,F21.S),(22,F22.S),(24,F24.S),(23,F23.S),(26,F26.S),(27,F27.S),(28,F28.S),(29,F29.S),(30,F30.S),(9,F9.S)]⟩
theorem ZBb:F10.S.Ok Tryz.prog 10:=F10.ok Tryz.func10 (by kernel_rfl) ⟨ok8,⟨Zuo,⟨ZyQ,⟨Zxs,⟨ZzX,⟨ZpE,⟨ZBo,⟨ZAK,⟨ZBK,⟨Zz3,⟨ok9,trivial⟩⟩⟩⟩⟩⟩⟩⟩⟩⟩⟩
noncomputable def g10 (a:Int) (b c:LL):Option (Qt2):=F10.S.g [.i a,.l b,.l c]
noncomputable def ZbI (k:Nat) (a c:LL) (d e f g h j m n o p q:Int) (r:Bool) (s t u v w x y z A C D E G H J K L M N O:Int) (P:LL) (Q R T U V W:Int) (X:Bool) (Y Z aa ab:LL) (ac ad:Int) (ae af ag ah ai aj ak al:LL) (am an:Int) (ao ap aq ar aZ au av aw:LL) (ax:Bool) (ay:Int) (az a0 a1 a2 a3 a4 a5 a6:LL) (a7 a8 a9 ba bb bc bd be bf bg bh:Int) (bi:Bool) (bj bk bl bm bn bo bp bq br bs bt bu bv bw bx bz b0 b1 b2 b3:Int) (b4:LL) (b5 b6 b7 b8 b9 ca:Int) (cb:Bool) (cc cd ce cf:LL) (cg ch:Int) (ci cj ck cl cm cn co cp:LL) (cq cr:Int) (cs ct cu cv cw cx cy cz:LL) (c0:Bool) (c1:Int) (c2 c3 c4 c5 c6 c7 c8 c9:LL) (da:Int):Option (Qt2):=F10.lp [10,4,3,2,1,0,5] 0 r0 k [.l a,.l c,.i d,.i e,.i f,.i g,.i h,.i j,.i m,.i n,.i o,.i p,.i q,.b r,.i s,.i t,.i u,.i v,.i w,.i x,.i y,.i z,.i A,.i C,.i D,.i E,.i G,.i H,.i J,.i K,.i L,.i M,.i N,.i O,.l P,.i Q,.i R,.i T,.i U,.i V,.i W,.b X,.l Y,.l Z,.l aa,.l ab,.i ac,.i ad,.l ae,.l af,.l ag,.l ah,.l ai,.l aj,.l ak,.l al,.i am,.i an,.l ao,.l ap,.l aq,.l ar,.l aZ,.l au,.l av,.l aw,.b ax,.i ay,.l az,.l a0,.l a1,.l a2,.l a3,.l a4,.l a5,.l a6,.i a7,.i a8,.i a9,.i ba,.i bb,.i bc,.i bd,.i be,.i bf,.i bg,.i bh,.b bi,.i bj,.i bk,.i bl,.i bm,.i bn,.i bo,.i bp,.i bq,.i br,.i bs,.i bt,.i bu,.i bv,.i bw,.i bx,.i bz,.i b0,.i b1,.i b2,.i b3,.l b4,.i b5,.i b6,.i b7,.i b8,.i b9,.i ca,.b cb,.l cc,.l cd,.l ce,.l cf,.i cg,.i ch,.l ci,.l cj,.l ck,.l cl,.l cm,.l cn,.l co,.l cp,.i cq,.i cr,.l cs,.l ct,.l cu,.l cv,.l cw,.l cx,.l cy,.l cz,.b c0,.i c1,.l c2,.l c3,.l c4,.l c5,.l c6,.l c7,.l c8,.l c9,.i da]
theorem ZnV (k:Nat) (x0 e:LL) (x2 x3 x4 x5 x6 x7 x8 x9 bf bg bh:Int) (bi:Bool) (bj bk bl bm bn bo bp bq br bs bt bu bv bw bx bz b0 b1 b2 b3:Int) (b4:LL) (b5 b6 b7 b8 b9 ca:Int) (cb:Bool) (cc cd ce cf:LL) (cg ch:Int) (ci cj ck cl cm cn co cp:LL) (cq cr:Int) (cs ct cu cv cw cx cy cz:LL) (c0:Bool) (c1:Int) (c2 c3 c4 c5 c6 c7 c8 c9:LL) (f g h i j l m n o p q:Int) (r:Bool) (s t u v w x y z A C D E G H J K L M N O:Int) (P:LL) (Q R T U V W:Int) (X:Bool) (Y c Z aa:LL) (ab ac:Int) (ad ae af ag ah ai aj ak:LL) (al am:Int) (an ao ap aq ar aZ au av:LL) (aw:Bool) (ax:Int) (ay az a0 a1 a2 a3 a4 a5:LL) (d:Int):ZbI (k+1) x0 e x2 x3 x4 x5 x6 x7 x8 x9 bf bg bh bi bj bk bl bm bn bo bp bq br bs bt bu bv bw bx bz b0 b1 b2 b3 b4 b5 b6 b7 b8 b9 ca cb cc cd ce cf cg ch ci cj ck cl cm cn co cp cq cr cs ct cu cv cw cx cy cz c0 c1 c2 c3 c4 c5 c6 c7 c8 c9 f g h i j l m n o p q r s t u v w x y z A C D E G H J K L M N O P Q R T U V W X Y c Z aa ab ac ad ae af ag ah ai aj ak al am an ao ap aq ar aZ au av aw ax ay az a0 a1 a2 a3 a4 a5 d =
 ((g21 x0 8).bind fun da=>
 (g8 da 3).bind fun db=>
 if (cop .lss d db) then
 if (cop .lss d (List.length e:Int)) then
 ZA (Jy E0 c 104)<|
 Zl e d hs9 fun (b:Qt14)=>
 (g26 b.2.2.1 b.2.2.2.1 b.2.2.2.2.1 b.2.2.2.2.2.1 b.2.2.2.2.2.2.1 b.2.2.2.2.2.2.2.1 b.2.2.2.2.2.2.2.2.1 b.2.2.2.2.2.2.2.2.2.1 b.2.2.2.2.2.2.2.2.2.2.1 b.2.2.2.2.2.2.2.2.2.2.2.1 (d4 (d8 b))).bind fun a=>
 ZA (Jy c (E0++[[AV.val (.int .i64 a.1),AV.val (.int .i64 a.2.1),AV.val (.int .i64 a.2.2.1),AV.slice false 3 a.2.2.2.1,AV.val (.int .i64 a.2.2.2.2.1),AV.val (.int .i64 a.2.2.2.2.2.1),AV.val (.int .i64 a.2.2.2.2.2.2.1),AV.val (.int .i64 a.2.2.2.2.2.2.2.1),AV.val (.int .i64 a.2.2.2.2.2.2.2.2.1),AV.val (.int .i64 a.2.2.2.2.2.2.2.2.2.1),AV.val (.bool a.2.2.2.2.2.2.2.2.2.2)]]) 104)<|
 ZbI k x0 e x2 x3 x4 x5 x6 x7 x8 x9 bf bg bh bi bj bk bl bm bn bo bp bq br bs bt bu bv bw bx bz b0 b1 b2 b3 b4 b5 b6 b7 b8 b9 ca cb cc cd ce cf cg ch ci cj ck cl cm cn co cp cq cr cs ct cu cv cw cx cy cz c0 c1 c2 c3 c4 c5 c6 c7 c8 c9 f g h i j l m n o p q r s t u v w x y z A C D E G H J K L M N O P Q R T U V W X Y (c++(E0++[[AV.val (.int .i64 a.1),AV.val (.int .i64 a.2.1),AV.val (.int .i64 a.2.2.1),AV.slice false 3 a.2.2.2.1,AV.val (.int .i64 a.2.2.2.2.1),AV.val (.int .i64 a.2.2.2.2.2.1),AV.val (.int .i64 a.2.2.2.2.2.2.1),AV.val (.int .i64 a.2.2.2.2.2.2.2.1),AV.val (.int .i64 a.2.2.2.2.2.2.2.2.1),AV.val (.int .i64 a.2.2.2.2.2.2.2.2.2.1),AV.val (.bool a.2.2.2.2.2.2.2.2.2.2)]])) Z aa ab ac ad ae af ag ah ai aj ak al am an ao ap aq ar aZ au av aw ax ay az a0 a1 a2 a3 a4 a5 (iop .add .i64 d 1)
 else
 some (f,g,h,i,j,l,m,n,o,p,q,r,s,t,u,v,w,x,y,z,A,C,D,E,G,H,J,K,L,M,N,O,P,Q,R,T,U,V,W,X,Y,c,Z,aa,ab,ac,ad,ae,af,ag,ah,ai,aj,ak,al,am,an,ao,ap,aq,ar,aZ,au,av,aw,ax,ay,az,a0,a1,a2,a3,a4,a5)
 else
 some (f,g,h,i,j,l,m,n,o,p,q,r,s,t,u,v,w,x,y,z,A,C,D,E,G,H,J,K,L,M,N,O,P,Q,R,T,U,V,W,X,Y,c,Z,aa,ab,ac,ad,ae,af,ag,ah,ai,aj,ak,al,am,an,ao,ap,aq,ar,aZ,au,av,aw,ax,ay,az,a0,a1,a2,a3,a4,a5)):=by kernel_rfl
noncomputable def Zby (k:Nat) (a:LL) (c d e f g h j m n o p:Int) (q:Bool) (r s t u v w x y z A C D E G H J K L M N:Int) (O:LL) (P Q R T U V:Int) (W:Bool) (X Y Z aa:LL) (ab ac:Int) (ad ae af ag ah ai aj ak:LL) (al am:Int) (an ao ap aq ar aZ au av:LL) (aw:Bool) (ax:Int) (ay az a0 a1 a2 a3 a4 a5:LL) (a6 a7 a8 a9 ba bb bc bd be bf bg:Int) (bh:Bool) (bi bj bk bl bm bn bo bp bq br bs bt bu bv bw bx bz b0 b1 b2:Int) (b3:LL) (b4 b5 b6 b7 b8 b9:Int) (ca:Bool) (cb cc cd ce:LL) (cf cg:Int) (ch ci cj ck cl cm cn co:LL) (cp cq:Int) (cr cs ct cu cv cw cx cy:LL) (cz:Bool) (c0:Int) (c1 c2 c3 c4 c5 c6 c7 c8:LL) (c9:Int):Option (Qt2):=F10.lp [10,4,3,2,1,1,1,1,1,1,1,1,0,3] 0 r0 k [.l a,.i c,.i d,.i e,.i f,.i g,.i h,.i j,.i m,.i n,.i o,.i p,.b q,.i r,.i s,.i t,.i u,.i v,.i w,.i x,.i y,.i z,.i A,.i C,.i D,.i E,.i G,.i H,.i J,.i K,.i L,.i M,.i N,.l O,.i P,.i Q,.i R,.i T,.i U,.i V,.b W,.l X,.l Y,.l Z,.l aa,.i ab,.i ac,.l ad,.l ae,.l af,.l ag,.l ah,.l ai,.l aj,.l ak,.i al,.i am,.l an,.l ao,.l ap,.l aq,.l ar,.l aZ,.l au,.l av,.b aw,.i ax,.l ay,.l az,.l a0,.l a1,.l a2,.l a3,.l a4,.l a5,.i a6,.i a7,.i a8,.i a9,.i ba,.i bb,.i bc,.i bd,.i be,.i bf,.i bg,.b bh,.i bi,.i bj,.i bk,.i bl,.i bm,.i bn,.i bo,.i bp,.i bq,.i br,.i bs,.i bt,.i bu,.i bv,.i bw,.i bx,.i bz,.i b0,.i b1,.i b2,.l b3,.i b4,.i b5,.i b6,.i b7,.i b8,.i b9,.b ca,.l cb,.l cc,.l cd,.l ce,.i cf,.i cg,.l ch,.l ci,.l cj,.l ck,.l cl,.l cm,.l cn,.l co,.i cp,.i cq,.l cr,.l cs,.l ct,.l cu,.l cv,.l cw,.l cx,.l cy,.b cz,.i c0,.l c1,.l c2,.l c3,.l c4,.l c5,.l c6,.l c7,.l c8,.i c9]
theorem Zoo (k:Nat) (a:LL) (x1 x2 x3 x4 x5 x6 x7 x8 x9 bd be:Int) (bf:Bool) (bg bh bi bj bk bl bm bn bo bp bq br bs bt bu bv bw bx bz b0:Int) (b1:LL) (b2 b3 b4 b5 b6 b7:Int) (b8:Bool) (b9 ca cb cc:LL) (cd ce:Int) (cf cg ch ci cj ck cl cm:LL) (cn co:Int) (cp cq cr cs ct cu cv cw:LL) (cx:Bool) (cy:Int) (cz c0 c1 c2 c3 c4 c5 c6:LL) (d e f g h i j l m n o:Int) (p:Bool) (q r s t u v w x y z A C D E G H J K L M:Int) (N:LL) (O P Q R T U:Int) (V:Bool) (W X Y b:LL) (Z aa:Int) (ab ac ad ae af ag ah ai:LL) (aj ak:Int) (al am an ao ap aq ar aZ:LL) (au:Bool) (av:Int) (aw ax ay az a0 a1 a2 a3:LL) (c:Int):Zby (k+1) a x1 x2 x3 x4 x5 x6 x7 x8 x9 bd be bf bg bh bi bj bk bl bm bn bo bp bq br bs bt bu bv bw bx bz b0 b1 b2 b3 b4 b5 b6 b7 b8 b9 ca cb cc cd ce cf cg ch ci cj ck cl cm cn co cp cq cr cs ct cu cv cw cx cy cz c0 c1 c2 c3 c4 c5 c6 d e f g h i j l m n o p q r s t u v w x y z A C D E G H J K L M N O P Q R T U V W X Y b Z aa ab ac ad ae af ag ah ai aj ak al am an ao ap aq ar aZ au av aw ax ay az a0 a1 a2 a3 c =
 ((g21 a 7).bind fun c9=>
 (g8 c9 3).bind fun da=>
 if (cop .lss c da) then
 ZA (Jy E0 b 16)<|
 (g21 a (iop .add .i64 8 c)).bind fun db=>
 (g8 db 3).bind fun c7=>
 (g21 a (iop .add .i64 9 c)).bind fun dc=>
 (g8 dc 4).bind fun c8=>
 ZA (Jy b (E0++[[AV.val (.int .i64 c7),AV.val (.int .i64 c8)]]) 16)<|
 Zby k a x1 x2 x3 x4 x5 x6 x7 x8 x9 bd be bf bg bh bi bj bk bl bm bn bo bp bq br bs bt bu bv bw bx bz b0 b1 b2 b3 b4 b5 b6 b7 b8 b9 ca cb cc cd ce cf cg ch ci cj ck cl cm cn co cp cq cr cs ct cu cv cw cx cy cz c0 c1 c2 c3 c4 c5 c6 d e f g h i j l m n o p q r s t u v w x y z A C D E G H J K L M N O P Q R T U V W X Y (b++(E0++[[AV.val (.int .i64 c7),AV.val (.int .i64 c8)]])) Z aa ab ac ad ae af ag ah ai aj ak al am an ao ap aq ar aZ au av aw ax ay az a0 a1 a2 a3 (iop .add .i64 c 1)
 else
 some (d,e,f,g,h,i,j,l,m,n,o,p,q,r,s,t,u,v,w,x,y,z,A,C,D,E,G,H,J,K,L,M,N,O,P,Q,R,T,U,V,W,X,Y,b,Z,aa,ab,ac,ad,ae,af,ag,ah,ai,aj,ak,al,am,an,ao,ap,aq,ar,aZ,au,av,aw,ax,ay,az,a0,a1,a2,a3)):=by kernel_rfl
theorem Ztd (O:Int) (e p:LL):g10 O e p =
 ((g8 O 17).bind fun c=>
 (g21 e 0).bind fun P=>
 (g8 P 70).bind fun h=>
 (g21 e 1).bind fun Q=>
 (g8 Q 4).bind fun i=>
 (g21 e 2).bind fun R=>
 (g8 R 4).bind fun j=>
 (g21 e 3).bind fun T=>
 (g22 T).bind fun q=>
 if (cop .gtr (List.length p:Int) 0) then
 (g21 e 3).bind fun r=>
 (g8 r (List.length p:Int)).bind fun f=>
 Zl p f hs9 fun (d:Qt14)=>
 if (cop .leq (iop .add .i64 1 c) 11) then
 (g21 e 4).bind fun s=>
 (g8 s 3).bind fun g=>
 if (cop .neq (iop .add .i64 1 c) 1) then
 (g21 e 5).bind fun m=>
 (g22 m).bind fun a=>
 if (cop .eql (iop .add .i64 1 c) 1) then
 (g24 e 5).bind fun t=>
 (g23 t d.2.2.1 d.2.2.2.1 d.2.2.2.2.1 d.2.2.2.2.2.1 d.2.2.2.2.2.2.1 d.2.2.2.2.2.2.2.1 d.2.2.2.2.2.2.2.2.1 d.2.2.2.2.2.2.2.2.2.1 d.2.2.2.2.2.2.2.2.2.2.1 d.2.2.2.2.2.2.2.2.2.2.2.1 (d4 (d8 d))).bind fun k=>
 some ((iop .add .i64 1 c),h,i,j,0,g,0,a.1,a.2.1,a.2.2,0,false,k.1,k.2.1,k.2.2.1,k.2.2.2.1,k.2.2.2.2.1,k.2.2.2.2.2.1,k.2.2.2.2.2.2.1,k.2.2.2.2.2.2.2.1,k.2.2.2.2.2.2.2.2.1,k.2.2.2.2.2.2.2.2.2.1,k.2.2.2.2.2.2.2.2.2.2.1,k.2.2.2.2.2.2.2.2.2.2.2.1,(d4 (d8 k)).1,(d4 (d8 k)).2.1,(d2 (d4 (d8 k))).1,(d2 (d4 (d8 k))).2.1,(d16 k).1,(d16 k).2.1,(d2 (d16 k)).1,(d2 (d16 k)).2.1,(d4 (d16 k)).1,(d4 (d16 k)).2.1,(d2 (d4 (d16 k))).1,(d2 (d4 (d16 k))).2.1,(d8 (d16 k)).1,(d8 (d16 k)).2.1,(d2 (d8 (d16 k))).1,(d2 (d8 (d16 k))).2,E0,E0,E0,E0,0,0,E0,E0,E0,E0,E0,E0,E0,E0,0,0,E0,E0,E0,E0,E0,E0,E0,E0,false,0,E0,E0,E0,E0,E0,E0,E0,E0)
 else
 if (cop .eql (iop .add .i64 1 c) 2) then
 (g21 e 6).bind fun t=>
 (g8 t 20).bind fun k=>
 (g21 e 7).bind fun v=>
 (g8 v 2).bind fun J=>
 ZbI Zw e p 0 0 0 0 0 0 0 0 0 0 0 false 0 0 0 0 0 0 0 0 0 0 0 0 0 0 0 0 0 0 0 0 E0 0 0 0 0 0 0 false E0 E0 E0 E0 0 0 E0 E0 E0 E0 E0 E0 E0 E0 0 0 E0 E0 E0 E0 E0 E0 E0 E0 false 0 E0 E0 E0 E0 E0 E0 E0 E0 (iop .add .i64 1 c) h i j 0 g 0 a.1 a.2.1 a.2.2 k (cop .eql J 1) 0 0 0 0 0 0 0 0 0 0 0 0 0 0 0 0 0 0 0 0 E0 0 0 0 0 0 0 false E0 E0 E0 E0 0 0 E0 E0 E0 E0 E0 E0 E0 E0 0 0 E0 E0 E0 E0 E0 E0 E0 E0 false 0 E0 E0 E0 E0 E0 E0 E0 E0 0
 else
 if (cop .eql (iop .add .i64 1 c) 4) then
 (g21 e 6).bind fun t=>
 (g8 t 12).bind fun k=>
 (g26 d.2.2.1 d.2.2.2.1 d.2.2.2.2.1 d.2.2.2.2.2.1 d.2.2.2.2.2.2.1 d.2.2.2.2.2.2.2.1 d.2.2.2.2.2.2.2.2.1 d.2.2.2.2.2.2.2.2.2.1 d.2.2.2.2.2.2.2.2.2.2.1 d.2.2.2.2.2.2.2.2.2.2.2.1 (d4 (d8 d))).bind fun v=>
 some ((iop .add .i64 1 c),h,i,j,0,g,k,a.1,a.2.1,a.2.2,0,false,0,0,0,0,0,0,0,0,0,0,0,0,0,0,0,0,0,0,0,0,E0,0,0,0,0,0,0,false,E0,(E0++[[AV.val (.int .i64 v.1),AV.val (.int .i64 v.2.1),AV.val (.int .i64 v.2.2.1),AV.slice false 3 v.2.2.2.1,AV.val (.int .i64 v.2.2.2.2.1),AV.val (.int .i64 v.2.2.2.2.2.1),AV.val (.int .i64 v.2.2.2.2.2.2.1),AV.val (.int .i64 v.2.2.2.2.2.2.2.1),AV.val (.int .i64 v.2.2.2.2.2.2.2.2.1),AV.val (.int .i64 v.2.2.2.2.2.2.2.2.2.1),AV.val (.bool v.2.2.2.2.2.2.2.2.2.2)]]),E0,E0,0,0,E0,E0,E0,E0,E0,E0,E0,E0,0,0,E0,E0,E0,E0,E0,E0,E0,E0,false,0,E0,E0,E0,E0,E0,E0,E0,E0)
 else
 if (cop .eql (iop .add .i64 1 c) 5) then
 (g21 e 6).bind fun t=>
 (g8 t 20).bind fun k=>
 some ((iop .add .i64 1 c),h,i,j,0,g,0,a.1,a.2.1,a.2.2,k,false,0,0,0,0,0,0,0,0,0,0,0,0,0,0,0,0,0,0,0,0,E0,0,0,0,0,0,0,false,E0,E0,E0,E0,0,0,E0,E0,E0,E0,E0,E0,E0,E0,0,0,E0,E0,E0,E0,E0,E0,E0,E0,false,0,E0,E0,E0,E0,E0,E0,E0,E0)
 else
 if (cop .eql (iop .add .i64 1 c) 6) then
 (g24 e 6).bind fun t=>
 (g27 t).bind fun k=>
 some ((iop .add .i64 1 c),h,i,j,0,g,0,a.1,a.2.1,a.2.2,0,false,0,0,0,0,0,0,0,0,0,0,0,0,0,0,0,0,0,0,0,0,E0,0,0,0,0,0,0,false,k,E0,E0,E0,0,0,E0,E0,E0,E0,E0,E0,E0,E0,0,0,E0,E0,E0,E0,E0,E0,E0,E0,false,0,E0,E0,E0,E0,E0,E0,E0,E0)
 else
 if (cop .eql (iop .add .i64 1 c) 12) then
 (g21 e 6).bind fun t=>
 (g28 t).bind fun k=>
 some ((iop .add .i64 1 c),h,i,j,0,g,0,a.1,a.2.1,a.2.2,0,false,0,0,0,0,0,0,0,0,0,0,0,0,0,0,0,0,0,0,0,0,E0,0,0,0,0,0,0,false,E0,E0,k,E0,0,0,E0,E0,E0,E0,E0,E0,E0,E0,0,0,E0,E0,E0,E0,E0,E0,E0,E0,false,0,E0,E0,E0,E0,E0,E0,E0,E0)
 else
 if (cop .eql (iop .add .i64 1 c) 13) then
 (g24 e 6).bind fun t=>
 (g29 t p).bind fun k=>
 some ((iop .add .i64 1 c),h,i,j,0,g,0,a.1,a.2.1,a.2.2,0,false,0,0,0,0,0,0,0,0,0,0,0,0,0,0,0,0,0,0,0,0,E0,0,0,0,0,0,0,false,E0,E0,E0,E0,0,0,E0,E0,E0,E0,E0,E0,E0,E0,k.1,k.2.1,k.2.2.1,k.2.2.2.1,k.2.2.2.2.1,k.2.2.2.2.2.1,k.2.2.2.2.2.2.1,k.2.2.2.2.2.2.2.1,k.2.2.2.2.2.2.2.2.1,k.2.2.2.2.2.2.2.2.2.1,k.2.2.2.2.2.2.2.2.2.2.1,k.2.2.2.2.2.2.2.2.2.2.2.1,(d4 (d8 k)).1,(d4 (d8 k)).2.1,(d2 (d4 (d8 k))).1,(d2 (d4 (d8 k))).2.1,(d16 k).1,(d16 k).2.1,(d2 (d16 k)).1,(d2 (d16 k)).2)
 else
 if (cop .eql (iop .add .i64 1 c) 14) then
 (g21 e 5).bind fun t=>
 (g8 t 70).bind fun k=>
 (g21 e 6).bind fun v=>
 (g28 v).bind fun J=>
 (g24 e 7).bind fun E=>
 (g30 E).bind fun x=>
 (g24 e 8).bind fun U=>
 (g21 e 9).bind fun V=>
 (g8 V 4).bind fun W=>
 (g9 U p W).bind fun H=>
 some ((iop .add .i64 1 c),h,i,j,0,g,0,a.1,a.2.1,a.2.2,0,false,0,0,0,0,0,0,0,0,0,0,0,0,0,0,0,0,0,0,0,0,E0,0,0,0,0,0,0,false,E0,E0,J,E0,k,x.1,x.2.1,x.2.2,H.1,H.2.1,H.2.2.1,H.2.2.2.1,H.2.2.2.2.1,H.2.2.2.2.2,0,0,E0,E0,E0,E0,E0,E0,E0,E0,false,0,E0,E0,E0,E0,E0,E0,E0,E0)
 else
 if (cop .eql (iop .add .i64 1 c) 17) then
 (g21 e 6).bind fun t=>
 (g28 t).bind fun k=>
 Zby Zw e 0 0 0 0 0 0 0 0 0 0 0 false 0 0 0 0 0 0 0 0 0 0 0 0 0 0 0 0 0 0 0 0 E0 0 0 0 0 0 0 false E0 E0 E0 E0 0 0 E0 E0 E0 E0 E0 E0 E0 E0 0 0 E0 E0 E0 E0 E0 E0 E0 E0 false 0 E0 E0 E0 E0 E0 E0 E0 E0 (iop .add .i64 1 c) h i j 0 g 0 a.1 a.2.1 a.2.2 0 false 0 0 0 0 0 0 0 0 0 0 0 0 0 0 0 0 0 0 0 0 E0 0 0 0 0 0 0 false E0 E0 k E0 0 0 E0 E0 E0 E0 E0 E0 E0 E0 0 0 E0 E0 E0 E0 E0 E0 E0 E0 false 0 E0 E0 E0 E0 E0 E0 E0 E0 0
 else
 some ((iop .add .i64 1 c),h,i,j,0,g,0,a.1,a.2.1,a.2.2,0,false,0,0,0,0,0,0,0,0,0,0,0,0,0,0,0,0,0,0,0,0,E0,0,0,0,0,0,0,false,E0,E0,E0,E0,0,0,E0,E0,E0,E0,E0,E0,E0,E0,0,0,E0,E0,E0,E0,E0,E0,E0,E0,false,0,E0,E0,E0,E0,E0,E0,E0,E0)
 else
 if (cop .eql (iop .add .i64 1 c) 1) then
 (g24 e 5).bind fun m=>
 (g23 m d.2.2.1 d.2.2.2.1 d.2.2.2.2.1 d.2.2.2.2.2.1 d.2.2.2.2.2.2.1 d.2.2.2.2.2.2.2.1 d.2.2.2.2.2.2.2.2.1 d.2.2.2.2.2.2.2.2.2.1 d.2.2.2.2.2.2.2.2.2.2.1 d.2.2.2.2.2.2.2.2.2.2.2.1 (d4 (d8 d))).bind fun a=>
 some ((iop .add .i64 1 c),h,i,j,0,g,0,0,0,0,0,false,a.1,a.2.1,a.2.2.1,a.2.2.2.1,a.2.2.2.2.1,a.2.2.2.2.2.1,a.2.2.2.2.2.2.1,a.2.2.2.2.2.2.2.1,a.2.2.2.2.2.2.2.2.1,a.2.2.2.2.2.2.2.2.2.1,a.2.2.2.2.2.2.2.2.2.2.1,a.2.2.2.2.2.2.2.2.2.2.2.1,(d4 (d8 a)).1,(d4 (d8 a)).2.1,(d2 (d4 (d8 a))).1,(d2 (d4 (d8 a))).2.1,(d16 a).1,(d16 a).2.1,(d2 (d16 a)).1,(d2 (d16 a)).2.1,(d4 (d16 a)).1,(d4 (d16 a)).2.1,(d2 (d4 (d16 a))).1,(d2 (d4 (d16 a))).2.1,(d8 (d16 a)).1,(d8 (d16 a)).2.1,(d2 (d8 (d16 a))).1,(d2 (d8 (d16 a))).2,E0,E0,E0,E0,0,0,E0,E0,E0,E0,E0,E0,E0,E0,0,0,E0,E0,E0,E0,E0,E0,E0,E0,false,0,E0,E0,E0,E0,E0,E0,E0,E0)
 else
 if (cop .eql (iop .add .i64 1 c) 2) then
 (g21 e 6).bind fun m=>
 (g8 m 20).bind fun a=>
 (g21 e 7).bind fun n=>
 (g8 n 2).bind fun C=>
 ZbI Zw e p 0 0 0 0 0 0 0 0 0 0 0 false 0 0 0 0 0 0 0 0 0 0 0 0 0 0 0 0 0 0 0 0 E0 0 0 0 0 0 0 false E0 E0 E0 E0 0 0 E0 E0 E0 E0 E0 E0 E0 E0 0 0 E0 E0 E0 E0 E0 E0 E0 E0 false 0 E0 E0 E0 E0 E0 E0 E0 E0 (iop .add .i64 1 c) h i j 0 g 0 0 0 0 a (cop .eql C 1) 0 0 0 0 0 0 0 0 0 0 0 0 0 0 0 0 0 0 0 0 E0 0 0 0 0 0 0 false E0 E0 E0 E0 0 0 E0 E0 E0 E0 E0 E0 E0 E0 0 0 E0 E0 E0 E0 E0 E0 E0 E0 false 0 E0 E0 E0 E0 E0 E0 E0 E0 0
 else
 if (cop .eql (iop .add .i64 1 c) 4) then
 (g21 e 6).bind fun m=>
 (g8 m 12).bind fun a=>
 (g26 d.2.2.1 d.2.2.2.1 d.2.2.2.2.1 d.2.2.2.2.2.1 d.2.2.2.2.2.2.1 d.2.2.2.2.2.2.2.1 d.2.2.2.2.2.2.2.2.1 d.2.2.2.2.2.2.2.2.2.1 d.2.2.2.2.2.2.2.2.2.2.1 d.2.2.2.2.2.2.2.2.2.2.2.1 (d4 (d8 d))).bind fun n=>
 some ((iop .add .i64 1 c),h,i,j,0,g,a,0,0,0,0,false,0,0,0,0,0,0,0,0,0,0,0,0,0,0,0,0,0,0,0,0,E0,0,0,0,0,0,0,false,E0,(E0++[[AV.val (.int .i64 n.1),AV.val (.int .i64 n.2.1),AV.val (.int .i64 n.2.2.1),AV.slice false 3 n.2.2.2.1,AV.val (.int .i64 n.2.2.2.2.1),AV.val (.int .i64 n.2.2.2.2.2.1),AV.val (.int .i64 n.2.2.2.2.2.2.1),AV.val (.int .i64 n.2.2.2.2.2.2.2.1),AV.val (.int .i64 n.2.2.2.2.2.2.2.2.1),AV.val (.int .i64 n.2.2.2.2.2.2.2.2.2.1),AV.val (.bool n.2.2.2.2.2.2.2.2.2.2)]]),E0,E0,0,0,E0,E0,E0,E0,E0,E0,E0,E0,0,0,E0,E0,E0,E0,E0,E0,E0,E0,false,0,E0,E0,E0,E0,E0,E0,E0,E0)
 else
 if (cop .eql (iop .add .i64 1 c) 5) then
 (g21 e 6).bind fun m=>
 (g8 m 20).bind fun a=>
 some ((iop .add .i64 1 c),h,i,j,0,g,0,0,0,0,a,false,0,0,0,0,0,0,0,0,0,0,0,0,0,0,0,0,0,0,0,0,E0,0,0,0,0,0,0,false,E0,E0,E0,E0,0,0,E0,E0,E0,E0,E0,E0,E0,E0,0,0,E0,E0,E0,E0,E0,E0,E0,E0,false,0,E0,E0,E0,E0,E0,E0,E0,E0)
 else
 if (cop .eql (iop .add .i64 1 c) 6) then
 (g24 e 6).bind fun m=>
 (g27 m).bind fun a=>
 some ((iop .add .i64 1 c),h,i,j,0,g,0,0,0,0,0,false,0,0,0,0,0,0,0,0,0,0,0,0,0,0,0,0,0,0,0,0,E0,0,0,0,0,0,0,false,a,E0,E0,E0,0,0,E0,E0,E0,E0,E0,E0,E0,E0,0,0,E0,E0,E0,E0,E0,E0,E0,E0,false,0,E0,E0,E0,E0,E0,E0,E0,E0)
 else
 if (cop .eql (iop .add .i64 1 c) 12) then
 (g21 e 6).bind fun m=>
 (g28 m).bind fun a=>
 some ((iop .add .i64 1 c),h,i,j,0,g,0,0,0,0,0,false,0,0,0,0,0,0,0,0,0,0,0,0,0,0,0,0,0,0,0,0,E0,0,0,0,0,0,0,false,E0,E0,a,E0,0,0,E0,E0,E0,E0,E0,E0,E0,E0,0,0,E0,E0,E0,E0,E0,E0,E0,E0,false,0,E0,E0,E0,E0,E0,E0,E0,E0)
 else
 if (cop .eql (iop .add .i64 1 c) 13) then
 (g24 e 6).bind fun m=>
 (g29 m p).bind fun a=>
 some ((iop .add .i64 1 c),h,i,j,0,g,0,0,0,0,0,false,0,0,0,0,0,0,0,0,0,0,0,0,0,0,0,0,0,0,0,0,E0,0,0,0,0,0,0,false,E0,E0,E0,E0,0,0,E0,E0,E0,E0,E0,E0,E0,E0,a.1,a.2.1,a.2.2.1,a.2.2.2.1,a.2.2.2.2.1,a.2.2.2.2.2.1,a.2.2.2.2.2.2.1,a.2.2.2.2.2.2.2.1,a.2.2.2.2.2.2.2.2.1,a.2.2.2.2.2.2.2.2.2.1,a.2.2.2.2.2.2.2.2.2.2.1,a.2.2.2.2.2.2.2.2.2.2.2.1,(d4 (d8 a)).1,(d4 (d8 a)).2.1,(d2 (d4 (d8 a))).1,(d2 (d4 (d8 a))).2.1,(d16 a).1,(d16 a).2.1,(d2 (d16 a)).1,(d2 (d16 a)).2)
 else
 if (cop .eql (iop .add .i64 1 c) 14) then
 (g21 e 5).bind fun m=>
 (g8 m 70).bind fun a=>
 (g21 e 6).bind fun n=>
 (g28 n).bind fun C=>
 (g24 e 7).bind fun t=>
 (g30 t).bind fun k=>
 (g24 e 8).bind fun E=>
 (g21 e 9).bind fun x=>
 (g8 x 4).bind fun L=>
 (g9 E p L).bind fun z=>
 some ((iop .add .i64 1 c),h,i,j,0,g,0,0,0,0,0,false,0,0,0,0,0,0,0,0,0,0,0,0,0,0,0,0,0,0,0,0,E0,0,0,0,0,0,0,false,E0,E0,C,E0,a,k.1,k.2.1,k.2.2,z.1,z.2.1,z.2.2.1,z.2.2.2.1,z.2.2.2.2.1,z.2.2.2.2.2,0,0,E0,E0,E0,E0,E0,E0,E0,E0,false,0,E0,E0,E0,E0,E0,E0,E0,E0)
 else
 if (cop .eql (iop .add .i64 1 c) 17) then
 (g21 e 6).bind fun m=>
 (g28 m).bind fun a=>
 Zby Zw e 0 0 0 0 0 0 0 0 0 0 0 false 0 0 0 0 0 0 0 0 0 0 0 0 0 0 0 0 0 0 0 0 E0 0 0 0 0 0 0 false E0 E0 E0 E0 0 0 E0 E0 E0 E0 E0 E0 E0 E0 0 0 E0 E0 E0 E0 E0 E0 E0 E0 false 0 E0 E0 E0 E0 E0 E0 E0 E0 (iop .add .i64 1 c) h i j 0 g 0 0 0 0 0 false 0 0 0 0 0 0 0 0 0 0 0 0 0 0 0 0 0 0 0 0 E0 0 0 0 0 0 0 false E0 E0 a E0 0 0 E0 E0 E0 E0 E0 E0 E0 E0 0 0 E0 E0 E0 E0 E0 E0 E0 E0 false 0 E0 E0 E0 E0 E0 E0 E0 E0 0
 else
 some ((iop .add .i64 1 c),h,i,j,0,g,0,0,0,0,0,false,0,0,0,0,0,0,0,0,0,0,0,0,0,0,0,0,0,0,0,0,E0,0,0,0,0,0,0,false,E0,E0,E0,E0,0,0,E0,E0,E0,E0,E0,E0,E0,E0,0,0,E0,E0,E0,E0,E0,E0,E0,E0,false,0,E0,E0,E0,E0,E0,E0,E0,E0)
 else
 if (cop .lss (iop .add .i64 1 c) 17) then
 (g21 e 4).bind fun s=>
 (g8 s 5).bind fun g=>
 if (cop .eql (iop .add .i64 1 c) 1) then
 (g24 e 5).bind fun m=>
 (g23 m d.2.2.1 d.2.2.2.1 d.2.2.2.2.1 d.2.2.2.2.2.1 d.2.2.2.2.2.2.1 d.2.2.2.2.2.2.2.1 d.2.2.2.2.2.2.2.2.1 d.2.2.2.2.2.2.2.2.2.1 d.2.2.2.2.2.2.2.2.2.2.1 d.2.2.2.2.2.2.2.2.2.2.2.1 (d4 (d8 d))).bind fun a=>
 some ((iop .add .i64 1 c),h,i,j,g,0,0,0,0,0,0,false,a.1,a.2.1,a.2.2.1,a.2.2.2.1,a.2.2.2.2.1,a.2.2.2.2.2.1,a.2.2.2.2.2.2.1,a.2.2.2.2.2.2.2.1,a.2.2.2.2.2.2.2.2.1,a.2.2.2.2.2.2.2.2.2.1,a.2.2.2.2.2.2.2.2.2.2.1,a.2.2.2.2.2.2.2.2.2.2.2.1,(d4 (d8 a)).1,(d4 (d8 a)).2.1,(d2 (d4 (d8 a))).1,(d2 (d4 (d8 a))).2.1,(d16 a).1,(d16 a).2.1,(d2 (d16 a)).1,(d2 (d16 a)).2.1,(d4 (d16 a)).1,(d4 (d16 a)).2.1,(d2 (d4 (d16 a))).1,(d2 (d4 (d16 a))).2.1,(d8 (d16 a)).1,(d8 (d16 a)).2.1,(d2 (d8 (d16 a))).1,(d2 (d8 (d16 a))).2,E0,E0,E0,E0,0,0,E0,E0,E0,E0,E0,E0,E0,E0,0,0,E0,E0,E0,E0,E0,E0,E0,E0,false,0,E0,E0,E0,E0,E0,E0,E0,E0)
 else
 if (cop .eql (iop .add .i64 1 c) 2) then
 (g21 e 6).bind fun m=>
 (g8 m 20).bind fun a=>
 (g21 e 7).bind fun n=>
 (g8 n 2).bind fun C=>
 ZbI Zw e p 0 0 0 0 0 0 0 0 0 0 0 false 0 0 0 0 0 0 0 0 0 0 0 0 0 0 0 0 0 0 0 0 E0 0 0 0 0 0 0 false E0 E0 E0 E0 0 0 E0 E0 E0 E0 E0 E0 E0 E0 0 0 E0 E0 E0 E0 E0 E0 E0 E0 false 0 E0 E0 E0 E0 E0 E0 E0 E0 (iop .add .i64 1 c) h i j g 0 0 0 0 0 a (cop .eql C 1) 0 0 0 0 0 0 0 0 0 0 0 0 0 0 0 0 0 0 0 0 E0 0 0 0 0 0 0 false E0 E0 E0 E0 0 0 E0 E0 E0 E0 E0 E0 E0 E0 0 0 E0 E0 E0 E0 E0 E0 E0 E0 false 0 E0 E0 E0 E0 E0 E0 E0 E0 0
 else
 if (cop .eql (iop .add .i64 1 c) 4) then
 (g21 e 6).bind fun m=>
 (g8 m 12).bind fun a=>
 (g26 d.2.2.1 d.2.2.2.1 d.2.2.2.2.1 d.2.2.2.2.2.1 d.2.2.2.2.2.2.1 d.2.2.2.2.2.2.2.1 d.2.2.2.2.2.2.2.2.1 d.2.2.2.2.2.2.2.2.2.1 d.2.2.2.2.2.2.2.2.2.2.1 d.2.2.2.2.2.2.2.2.2.2.2.1 (d4 (d8 d))).bind fun n=>
 some ((iop .add .i64 1 c),h,i,j,g,0,a,0,0,0,0,false,0,0,0,0,0,0,0,0,0,0,0,0,0,0,0,0,0,0,0,0,E0,0,0,0,0,0,0,false,E0,(E0++[[AV.val (.int .i64 n.1),AV.val (.int .i64 n.2.1),AV.val (.int .i64 n.2.2.1),AV.slice false 3 n.2.2.2.1,AV.val (.int .i64 n.2.2.2.2.1),AV.val (.int .i64 n.2.2.2.2.2.1),AV.val (.int .i64 n.2.2.2.2.2.2.1),AV.val (.int .i64 n.2.2.2.2.2.2.2.1),AV.val (.int .i64 n.2.2.2.2.2.2.2.2.1),AV.val (.int .i64 n.2.2.2.2.2.2.2.2.2.1),AV.val (.bool n.2.2.2.2.2.2.2.2.2.2)]]),E0,E0,0,0,E0,E0,E0,E0,E0,E0,E0,E0,0,0,E0,E0,E0,E0,E0,E0,E0,E0,false,0,E0,E0,E0,E0,E0,E0,E0,E0)
 else
 if (cop .eql (iop .add .i64 1 c) 5) then
 (g21 e 6).bind fun m=>
 (g8 m 20).bind fun a=>
 some ((iop .add .i64 1 c),h,i,j,g,0,0,0,0,0,a,false,0,0,0,0,0,0,0,0,0,0,0,0,0,0,0,0,0,0,0,0,E0,0,0,0,0,0,0,false,E0,E0,E0,E0,0,0,E0,E0,E0,E0,E0,E0,E0,E0,0,0,E0,E0,E0,E0,E0,E0,E0,E0,false,0,E0,E0,E0,E0,E0,E0,E0,E0)
 else
 if (cop .eql (iop .add .i64 1 c) 6) then
 (g24 e 6).bind fun m=>
 (g27 m).bind fun a=>
 some ((iop .add .i64 1 c),h,i,j,g,0,0,0,0,0,0,false,0,0,0,0,0,0,0,0,0,0,0,0,0,0,0,0,0,0,0,0,E0,0,0,0,0,0,0,false,a,E0,E0,E0,0,0,E0,E0,E0,E0,E0,E0,E0,E0,0,0,E0,E0,E0,E0,E0,E0,E0,E0,false,0,E0,E0,E0,E0,E0,E0,E0,E0)
 else
 if (cop .eql (iop .add .i64 1 c) 12) then
 (g21 e 6).bind fun m=>
 (g28 m).bind fun a=>
 some ((iop .add .i64 1 c),h,i,j,g,0,0,0,0,0,0,false,0,0,0,0,0,0,0,0,0,0,0,0,0,0,0,0,0,0,0,0,E0,0,0,0,0,0,0,false,E0,E0,a,E0,0,0,E0,E0,E0,E0,E0,E0,E0,E0,0,0,E0,E0,E0,E0,E0,E0,E0,E0,false,0,E0,E0,E0,E0,E0,E0,E0,E0)
 else
 if (cop .eql (iop .add .i64 1 c) 13) then
 (g24 e 6).bind fun m=>
 (g29 m p).bind fun a=>
 some ((iop .add .i64 1 c),h,i,j,g,0,0,0,0,0,0,false,0,0,0,0,0,0,0,0,0,0,0,0,0,0,0,0,0,0,0,0,E0,0,0,0,0,0,0,false,E0,E0,E0,E0,0,0,E0,E0,E0,E0,E0,E0,E0,E0,a.1,a.2.1,a.2.2.1,a.2.2.2.1,a.2.2.2.2.1,a.2.2.2.2.2.1,a.2.2.2.2.2.2.1,a.2.2.2.2.2.2.2.1,a.2.2.2.2.2.2.2.2.1,a.2.2.2.2.2.2.2.2.2.1,a.2.2.2.2.2.2.2.2.2.2.1,a.2.2.2.2.2.2.2.2.2.2.2.1,(d4 (d8 a)).1,(d4 (d8 a)).2.1,(d2 (d4 (d8 a))).1,(d2 (d4 (d8 a))).2.1,(d16 a).1,(d16 a).2.1,(d2 (d16 a)).1,(d2 (d16 a)).2)
 else
 if (cop .eql (iop .add .i64 1 c) 14) then
 (g21 e 5).bind fun m=>
 (g8 m 70).bind fun a=>
 (g21 e 6).bind fun n=>
 (g28 n).bind fun C=>
 (g24 e 7).bind fun t=>
 (g30 t).bind fun k=>
 (g24 e 8).bind fun E=>
 (g21 e 9).bind fun x=>
 (g8 x 4).bind fun L=>
 (g9 E p L).bind fun z=>
 some ((iop .add .i64 1 c),h,i,j,g,0,0,0,0,0,0,false,0,0,0,0,0,0,0,0,0,0,0,0,0,0,0,0,0,0,0,0,E0,0,0,0,0,0,0,false,E0,E0,C,E0,a,k.1,k.2.1,k.2.2,z.1,z.2.1,z.2.2.1,z.2.2.2.1,z.2.2.2.2.1,z.2.2.2.2.2,0,0,E0,E0,E0,E0,E0,E0,E0,E0,false,0,E0,E0,E0,E0,E0,E0,E0,E0)
 else
 if (cop .eql (iop .add .i64 1 c) 17) then
 (g21 e 6).bind fun m=>
 (g28 m).bind fun a=>
 Zby Zw e 0 0 0 0 0 0 0 0 0 0 0 false 0 0 0 0 0 0 0 0 0 0 0 0 0 0 0 0 0 0 0 0 E0 0 0 0 0 0 0 false E0 E0 E0 E0 0 0 E0 E0 E0 E0 E0 E0 E0 E0 0 0 E0 E0 E0 E0 E0 E0 E0 E0 false 0 E0 E0 E0 E0 E0 E0 E0 E0 (iop .add .i64 1 c) h i j g 0 0 0 0 0 0 false 0 0 0 0 0 0 0 0 0 0 0 0 0 0 0 0 0 0 0 0 E0 0 0 0 0 0 0 false E0 E0 a E0 0 0 E0 E0 E0 E0 E0 E0 E0 E0 0 0 E0 E0 E0 E0 E0 E0 E0 E0 false 0 E0 E0 E0 E0 E0 E0 E0 E0 0
 else
 some ((iop .add .i64 1 c),h,i,j,g,0,0,0,0,0,0,false,0,0,0,0,0,0,0,0,0,0,0,0,0,0,0,0,0,0,0,0,E0,0,0,0,0,0,0,false,E0,E0,E0,E0,0,0,E0,E0,E0,E0,E0,E0,E0,E0,0,0,E0,E0,E0,E0,E0,E0,E0,E0,false,0,E0,E0,E0,E0,E0,E0,E0,E0)
 else
 if (cop .eql (iop .add .i64 1 c) 1) then
 (g24 e 5).bind fun s=>
 (g23 s d.2.2.1 d.2.2.2.1 d.2.2.2.2.1 d.2.2.2.2.2.1 d.2.2.2.2.2.2.1 d.2.2.2.2.2.2.2.1 d.2.2.2.2.2.2.2.2.1 d.2.2.2.2.2.2.2.2.2.1 d.2.2.2.2.2.2.2.2.2.2.1 d.2.2.2.2.2.2.2.2.2.2.2.1 (d4 (d8 d))).bind fun g=>
 some ((iop .add .i64 1 c),h,i,j,0,0,0,0,0,0,0,false,g.1,g.2.1,g.2.2.1,g.2.2.2.1,g.2.2.2.2.1,g.2.2.2.2.2.1,g.2.2.2.2.2.2.1,g.2.2.2.2.2.2.2.1,g.2.2.2.2.2.2.2.2.1,g.2.2.2.2.2.2.2.2.2.1,g.2.2.2.2.2.2.2.2.2.2.1,g.2.2.2.2.2.2.2.2.2.2.2.1,(d4 (d8 g)).1,(d4 (d8 g)).2.1,(d2 (d4 (d8 g))).1,(d2 (d4 (d8 g))).2.1,(d16 g).1,(d16 g).2.1,(d2 (d16 g)).1,(d2 (d16 g)).2.1,(d4 (d16 g)).1,(d4 (d16 g)).2.1,(d2 (d4 (d16 g))).1,(d2 (d4 (d16 g))).2.1,(d8 (d16 g)).1,(d8 (d16 g)).2.1,(d2 (d8 (d16 g))).1,(d2 (d8 (d16 g))).2,E0,E0,E0,E0,0,0,E0,E0,E0,E0,E0,E0,E0,E0,0,0,E0,E0,E0,E0,E0,E0,E0,E0,false,0,E0,E0,E0,E0,E0,E0,E0,E0)
 else
 if (cop .eql (iop .add .i64 1 c) 2) then
 (g21 e 6).bind fun s=>
 (g8 s 20).bind fun g=>
 (g21 e 7).bind fun m=>
 (g8 m 2).bind fun a=>
 ZbI Zw e p 0 0 0 0 0 0 0 0 0 0 0 false 0 0 0 0 0 0 0 0 0 0 0 0 0 0 0 0 0 0 0 0 E0 0 0 0 0 0 0 false E0 E0 E0 E0 0 0 E0 E0 E0 E0 E0 E0 E0 E0 0 0 E0 E0 E0 E0 E0 E0 E0 E0 false 0 E0 E0 E0 E0 E0 E0 E0 E0 (iop .add .i64 1 c) h i j 0 0 0 0 0 0 g (cop .eql a 1) 0 0 0 0 0 0 0 0 0 0 0 0 0 0 0 0 0 0 0 0 E0 0 0 0 0 0 0 false E0 E0 E0 E0 0 0 E0 E0 E0 E0 E0 E0 E0 E0 0 0 E0 E0 E0 E0 E0 E0 E0 E0 false 0 E0 E0 E0 E0 E0 E0 E0 E0 0
 else
 if (cop .eql (iop .add .i64 1 c) 4) then
 (g21 e 6).bind fun s=>
 (g8 s 12).bind fun g=>
 (g26 d.2.2.1 d.2.2.2.1 d.2.2.2.2.1 d.2.2.2.2.2.1 d.2.2.2.2.2.2.1 d.2.2.2.2.2.2.2.1 d.2.2.2.2.2.2.2.2.1 d.2.2.2.2.2.2.2.2.2.1 d.2.2.2.2.2.2.2.2.2.2.1 d.2.2.2.2.2.2.2.2.2.2.2.1 (d4 (d8 d))).bind fun m=>
 some ((iop .add .i64 1 c),h,i,j,0,0,g,0,0,0,0,false,0,0,0,0,0,0,0,0,0,0,0,0,0,0,0,0,0,0,0,0,E0,0,0,0,0,0,0,false,E0,(E0++[[AV.val (.int .i64 m.1),AV.val (.int .i64 m.2.1),AV.val (.int .i64 m.2.2.1),AV.slice false 3 m.2.2.2.1,AV.val (.int .i64 m.2.2.2.2.1),AV.val (.int .i64 m.2.2.2.2.2.1),AV.val (.int .i64 m.2.2.2.2.2.2.1),AV.val (.int .i64 m.2.2.2.2.2.2.2.1),AV.val (.int .i64 m.2.2.2.2.2.2.2.2.1),AV.val (.int .i64 m.2.2.2.2.2.2.2.2.2.1),AV.val (.bool m.2.2.2.2.2.2.2.2.2.2)]]),E0,E0,0,0,E0,E0,E0,E0,E0,E0,E0,E0,0,0,E0,E0,E0,E0,E0,E0,E0,E0,false,0,E0,E0,E0,E0,E0,E0,E0,E0)
 else
 if (cop .eql (iop .add .i64 1 c) 5) then
 (g21 e 6).bind fun s=>
 (g8 s 20).bind fun g=>
 some ((iop .add .i64 1 c),h,i,j,0,0,0,0,0,0,g,false,0,0,0,0,0,0,0,0,0,0,0,0,0,0,0,0,0,0,0,0,E0,0,0,0,0,0,0,false,E0,E0,E0,E0,0,0,E0,E0,E0,E0,E0,E0,E0,E0,0,0,E0,E0,E0,E0,E0,E0,E0,E0,false,0,E0,E0,E0,E0,E0,E0,E0,E0)
 else
 if (cop .eql (iop .add .i64 1 c) 6) then
 (g24 e 6).bind fun s=>
 (g27 s).bind fun g=>
 some ((iop .add .i64 1 c),h,i,j,0,0,0,0,0,0,0,false,0,0,0,0,0,0,0,0,0,0,0,0,0,0,0,0,0,0,0,0,E0,0,0,0,0,0,0,false,g,E0,E0,E0,0,0,E0,E0,E0,E0,E0,E0,E0,E0,0,0,E0,E0,E0,E0,E0,E0,E0,E0,false,0,E0,E0,E0,E0,E0,E0,E0,E0)
 else
 if (cop .eql (iop .add .i64 1 c) 12) then
 (g21 e 6).bind fun s=>
 (g28 s).bind fun g=>
 some ((iop .add .i64 1 c),h,i,j,0,0,0,0,0,0,0,false,0,0,0,0,0,0,0,0,0,0,0,0,0,0,0,0,0,0,0,0,E0,0,0,0,0,0,0,false,E0,E0,g,E0,0,0,E0,E0,E0,E0,E0,E0,E0,E0,0,0,E0,E0,E0,E0,E0,E0,E0,E0,false,0,E0,E0,E0,E0,E0,E0,E0,E0)
 else
 if (cop .eql (iop .add .i64 1 c) 13) then
 (g24 e 6).bind fun s=>
 (g29 s p).bind fun g=>
 some ((iop .add .i64 1 c),h,i,j,0,0,0,0,0,0,0,false,0,0,0,0,0,0,0,0,0,0,0,0,0,0,0,0,0,0,0,0,E0,0,0,0,0,0,0,false,E0,E0,E0,E0,0,0,E0,E0,E0,E0,E0,E0,E0,E0,g.1,g.2.1,g.2.2.1,g.2.2.2.1,g.2.2.2.2.1,g.2.2.2.2.2.1,g.2.2.2.2.2.2.1,g.2.2.2.2.2.2.2.1,g.2.2.2.2.2.2.2.2.1,g.2.2.2.2.2.2.2.2.2.1,g.2.2.2.2.2.2.2.2.2.2.1,g.2.2.2.2.2.2.2.2.2.2.2.1,(d4 (d8 g)).1,(d4 (d8 g)).2.1,(d2 (d4 (d8 g))).1,(d2 (d4 (d8 g))).2.1,(d16 g).1,(d16 g).2.1,(d2 (d16 g)).1,(d2 (d16 g)).2)
 else
 if (cop .eql (iop .add .i64 1 c) 14) then
 (g21 e 5).bind fun s=>
 (g8 s 70).bind fun g=>
 (g21 e 6).bind fun m=>
 (g28 m).bind fun a=>
 (g24 e 7).bind fun n=>
 (g30 n).bind fun C=>
 (g24 e 8).bind fun v=>
 (g21 e 9).bind fun J=>
 (g8 J 4).bind fun E=>
 (g9 v p E).bind fun x=>
 some ((iop .add .i64 1 c),h,i,j,0,0,0,0,0,0,0,false,0,0,0,0,0,0,0,0,0,0,0,0,0,0,0,0,0,0,0,0,E0,0,0,0,0,0,0,false,E0,E0,a,E0,g,C.1,C.2.1,C.2.2,x.1,x.2.1,x.2.2.1,x.2.2.2.1,x.2.2.2.2.1,x.2.2.2.2.2,0,0,E0,E0,E0,E0,E0,E0,E0,E0,false,0,E0,E0,E0,E0,E0,E0,E0,E0)
 else
 if (cop .eql (iop .add .i64 1 c) 17) then
 (g21 e 6).bind fun s=>
 (g28 s).bind fun g=>
 Zby Zw e 0 0 0 0 0 0 0 0 0 0 0 false 0 0 0 0 0 0 0 0 0 0 0 0 0 0 0 0 0 0 0 0 E0 0 0 0 0 0 0 false E0 E0 E0 E0 0 0 E0 E0 E0 E0 E0 E0 E0 E0 0 0 E0 E0 E0 E0 E0 E0 E0 E0 false 0 E0 E0 E0 E0 E0 E0 E0 E0 (iop .add .i64 1 c) h i j 0 0 0 0 0 0 0 false 0 0 0 0 0 0 0 0 0 0 0 0 0 0 0 0 0 0 0 0 E0 0 0 0 0 0 0 false E0 E0 g E0 0 0 E0 E0 E0 E0 E0 E0 E0 E0 0 0 E0 E0 E0 E0 E0 E0 E0 E0 false 0 E0 E0 E0 E0 E0 E0 E0 E0 0
 else
 some ((iop .add .i64 1 c),h,i,j,0,0,0,0,0,0,0,false,0,0,0,0,0,0,0,0,0,0,0,0,0,0,0,0,0,0,0,0,E0,0,0,0,0,0,0,false,E0,E0,E0,E0,0,0,E0,E0,E0,E0,E0,E0,E0,E0,0,0,E0,E0,E0,E0,E0,E0,E0,E0,false,0,E0,E0,E0,E0,E0,E0,E0,E0)
 else
 if (cop .leq (iop .add .i64 1 c) 11) then
 (g21 e 4).bind fun r=>
 (g8 r 3).bind fun f=>
 if (cop .neq (iop .add .i64 1 c) 1) then
 (g21 e 5).bind fun d=>
 (g22 d).bind fun b=>
 if (cop .eql (iop .add .i64 1 c) 1) then
 (g24 e 5).bind fun u=>
 (g23 u q.1 q.2.1 q.2.2 E0 2 4096 12 3 0 0 false).bind fun l=>
 some ((iop .add .i64 1 c),h,i,j,0,f,0,b.1,b.2.1,b.2.2,0,false,l.1,l.2.1,l.2.2.1,l.2.2.2.1,l.2.2.2.2.1,l.2.2.2.2.2.1,l.2.2.2.2.2.2.1,l.2.2.2.2.2.2.2.1,l.2.2.2.2.2.2.2.2.1,l.2.2.2.2.2.2.2.2.2.1,l.2.2.2.2.2.2.2.2.2.2.1,l.2.2.2.2.2.2.2.2.2.2.2.1,(d4 (d8 l)).1,(d4 (d8 l)).2.1,(d2 (d4 (d8 l))).1,(d2 (d4 (d8 l))).2.1,(d16 l).1,(d16 l).2.1,(d2 (d16 l)).1,(d2 (d16 l)).2.1,(d4 (d16 l)).1,(d4 (d16 l)).2.1,(d2 (d4 (d16 l))).1,(d2 (d4 (d16 l))).2.1,(d8 (d16 l)).1,(d8 (d16 l)).2.1,(d2 (d8 (d16 l))).1,(d2 (d8 (d16 l))).2,E0,E0,E0,E0,0,0,E0,E0,E0,E0,E0,E0,E0,E0,0,0,E0,E0,E0,E0,E0,E0,E0,E0,false,0,E0,E0,E0,E0,E0,E0,E0,E0)
 else
 if (cop .eql (iop .add .i64 1 c) 2) then
 (g21 e 6).bind fun u=>
 (g8 u 20).bind fun l=>
 (g21 e 7).bind fun w=>
 (g8 w 2).bind fun K=>
 ZbI Zw e p 0 0 0 0 0 0 0 0 0 0 0 false 0 0 0 0 0 0 0 0 0 0 0 0 0 0 0 0 0 0 0 0 E0 0 0 0 0 0 0 false E0 E0 E0 E0 0 0 E0 E0 E0 E0 E0 E0 E0 E0 0 0 E0 E0 E0 E0 E0 E0 E0 E0 false 0 E0 E0 E0 E0 E0 E0 E0 E0 (iop .add .i64 1 c) h i j 0 f 0 b.1 b.2.1 b.2.2 l (cop .eql K 1) 0 0 0 0 0 0 0 0 0 0 0 0 0 0 0 0 0 0 0 0 E0 0 0 0 0 0 0 false E0 E0 E0 E0 0 0 E0 E0 E0 E0 E0 E0 E0 E0 0 0 E0 E0 E0 E0 E0 E0 E0 E0 false 0 E0 E0 E0 E0 E0 E0 E0 E0 0
 else
 if (cop .eql (iop .add .i64 1 c) 4) then
 (g21 e 6).bind fun u=>
 (g8 u 12).bind fun l=>
 (g26 q.1 q.2.1 q.2.2 E0 2 4096 12 3 0 0 false).bind fun w=>
 some ((iop .add .i64 1 c),h,i,j,0,f,l,b.1,b.2.1,b.2.2,0,false,0,0,0,0,0,0,0,0,0,0,0,0,0,0,0,0,0,0,0,0,E0,0,0,0,0,0,0,false,E0,(E0++[[AV.val (.int .i64 w.1),AV.val (.int .i64 w.2.1),AV.val (.int .i64 w.2.2.1),AV.slice false 3 w.2.2.2.1,AV.val (.int .i64 w.2.2.2.2.1),AV.val (.int .i64 w.2.2.2.2.2.1),AV.val (.int .i64 w.2.2.2.2.2.2.1),AV.val (.int .i64 w.2.2.2.2.2.2.2.1),AV.val (.int .i64 w.2.2.2.2.2.2.2.2.1),AV.val (.int .i64 w.2.2.2.2.2.2.2.2.2.1),AV.val (.bool w.2.2.2.2.2.2.2.2.2.2)]]),E0,E0,0,0,E0,E0,E0,E0,E0,E0,E0,E0,0,0,E0,E0,E0,E0,E0,E0,E0,E0,false,0,E0,E0,E0,E0,E0,E0,E0,E0)
 else
 if (cop .eql (iop .add .i64 1 c) 5) then
 (g21 e 6).bind fun u=>
 (g8 u 20).bind fun l=>
 some ((iop .add .i64 1 c),h,i,j,0,f,0,b.1,b.2.1,b.2.2,l,false,0,0,0,0,0,0,0,0,0,0,0,0,0,0,0,0,0,0,0,0,E0,0,0,0,0,0,0,false,E0,E0,E0,E0,0,0,E0,E0,E0,E0,E0,E0,E0,E0,0,0,E0,E0,E0,E0,E0,E0,E0,E0,false,0,E0,E0,E0,E0,E0,E0,E0,E0)
 else
 if (cop .eql (iop .add .i64 1 c) 6) then
 (g24 e 6).bind fun u=>
 (g27 u).bind fun l=>
 some ((iop .add .i64 1 c),h,i,j,0,f,0,b.1,b.2.1,b.2.2,0,false,0,0,0,0,0,0,0,0,0,0,0,0,0,0,0,0,0,0,0,0,E0,0,0,0,0,0,0,false,l,E0,E0,E0,0,0,E0,E0,E0,E0,E0,E0,E0,E0,0,0,E0,E0,E0,E0,E0,E0,E0,E0,false,0,E0,E0,E0,E0,E0,E0,E0,E0)
 else
 if (cop .eql (iop .add .i64 1 c) 12) then
 (g21 e 6).bind fun u=>
 (g28 u).bind fun l=>
 some ((iop .add .i64 1 c),h,i,j,0,f,0,b.1,b.2.1,b.2.2,0,false,0,0,0,0,0,0,0,0,0,0,0,0,0,0,0,0,0,0,0,0,E0,0,0,0,0,0,0,false,E0,E0,l,E0,0,0,E0,E0,E0,E0,E0,E0,E0,E0,0,0,E0,E0,E0,E0,E0,E0,E0,E0,false,0,E0,E0,E0,E0,E0,E0,E0,E0)
 else
 if (cop .eql (iop .add .i64 1 c) 13) then
 (g24 e 6).bind fun u=>
 (g29 u p).bind fun l=>
 some ((iop .add .i64 1 c),h,i,j,0,f,0,b.1,b.2.1,b.2.2,0,false,0,0,0,0,0,0,0,0,0,0,0,0,0,0,0,0,0,0,0,0,E0,0,0,0,0,0,0,false,E0,E0,E0,E0,0,0,E0,E0,E0,E0,E0,E0,E0,E0,l.1,l.2.1,l.2.2.1,l.2.2.2.1,l.2.2.2.2.1,l.2.2.2.2.2.1,l.2.2.2.2.2.2.1,l.2.2.2.2.2.2.2.1,l.2.2.2.2.2.2.2.2.1,l.2.2.2.2.2.2.2.2.2.1,l.2.2.2.2.2.2.2.2.2.2.1,l.2.2.2.2.2.2.2.2.2.2.2.1,(d4 (d8 l)).1,(d4 (d8 l)).2.1,(d2 (d4 (d8 l))).1,(d2 (d4 (d8 l))).2.1,(d16 l).1,(d16 l).2.1,(d2 (d16 l)).1,(d2 (d16 l)).2)
 else
 if (cop .eql (iop .add .i64 1 c) 14) then
 (g21 e 5).bind fun u=>
 (g8 u 70).bind fun l=>
 (g21 e 6).bind fun w=>
 (g28 w).bind fun K=>
 (g24 e 7).bind fun G=>
 (g30 G).bind fun y=>
 (g24 e 8).bind fun X=>
 (g21 e 9).bind fun s=>
 (g8 s 4).bind fun g=>
 (g9 X p g).bind fun m=>
 some ((iop .add .i64 1 c),h,i,j,0,f,0,b.1,b.2.1,b.2.2,0,false,0,0,0,0,0,0,0,0,0,0,0,0,0,0,0,0,0,0,0,0,E0,0,0,0,0,0,0,false,E0,E0,K,E0,l,y.1,y.2.1,y.2.2,m.1,m.2.1,m.2.2.1,m.2.2.2.1,m.2.2.2.2.1,m.2.2.2.2.2,0,0,E0,E0,E0,E0,E0,E0,E0,E0,false,0,E0,E0,E0,E0,E0,E0,E0,E0)
 else
 if (cop .eql (iop .add .i64 1 c) 17) then
 (g21 e 6).bind fun u=>
 (g28 u).bind fun l=>
 Zby Zw e 0 0 0 0 0 0 0 0 0 0 0 false 0 0 0 0 0 0 0 0 0 0 0 0 0 0 0 0 0 0 0 0 E0 0 0 0 0 0 0 false E0 E0 E0 E0 0 0 E0 E0 E0 E0 E0 E0 E0 E0 0 0 E0 E0 E0 E0 E0 E0 E0 E0 false 0 E0 E0 E0 E0 E0 E0 E0 E0 (iop .add .i64 1 c) h i j 0 f 0 b.1 b.2.1 b.2.2 0 false 0 0 0 0 0 0 0 0 0 0 0 0 0 0 0 0 0 0 0 0 E0 0 0 0 0 0 0 false E0 E0 l E0 0 0 E0 E0 E0 E0 E0 E0 E0 E0 0 0 E0 E0 E0 E0 E0 E0 E0 E0 false 0 E0 E0 E0 E0 E0 E0 E0 E0 0
 else
 some ((iop .add .i64 1 c),h,i,j,0,f,0,b.1,b.2.1,b.2.2,0,false,0,0,0,0,0,0,0,0,0,0,0,0,0,0,0,0,0,0,0,0,E0,0,0,0,0,0,0,false,E0,E0,E0,E0,0,0,E0,E0,E0,E0,E0,E0,E0,E0,0,0,E0,E0,E0,E0,E0,E0,E0,E0,false,0,E0,E0,E0,E0,E0,E0,E0,E0)
 else
 if (cop .eql (iop .add .i64 1 c) 1) then
 (g24 e 5).bind fun d=>
 (g23 d q.1 q.2.1 q.2.2 E0 2 4096 12 3 0 0 false).bind fun b=>
 some ((iop .add .i64 1 c),h,i,j,0,f,0,0,0,0,0,false,b.1,b.2.1,b.2.2.1,b.2.2.2.1,b.2.2.2.2.1,b.2.2.2.2.2.1,b.2.2.2.2.2.2.1,b.2.2.2.2.2.2.2.1,b.2.2.2.2.2.2.2.2.1,b.2.2.2.2.2.2.2.2.2.1,b.2.2.2.2.2.2.2.2.2.2.1,b.2.2.2.2.2.2.2.2.2.2.2.1,(d4 (d8 b)).1,(d4 (d8 b)).2.1,(d2 (d4 (d8 b))).1,(d2 (d4 (d8 b))).2.1,(d16 b).1,(d16 b).2.1,(d2 (d16 b)).1,(d2 (d16 b)).2.1,(d4 (d16 b)).1,(d4 (d16 b)).2.1,(d2 (d4 (d16 b))).1,(d2 (d4 (d16 b))).2.1,(d8 (d16 b)).1,(d8 (d16 b)).2.1,(d2 (d8 (d16 b))).1,(d2 (d8 (d16 b))).2,E0,E0,E0,E0,0,0,E0,E0,E0,E0,E0,E0,E0,E0,0,0,E0,E0,E0,E0,E0,E0,E0,E0,false,0,E0,E0,E0,E0,E0,E0,E0,E0)
 else
 if (cop .eql (iop .add .i64 1 c) 2) then
 (g21 e 6).bind fun d=>
 (g8 d 20).bind fun b=>
 (g21 e 7).bind fun o=>
 (g8 o 2).bind fun D=>
 ZbI Zw e p 0 0 0 0 0 0 0 0 0 0 0 false 0 0 0 0 0 0 0 0 0 0 0 0 0 0 0 0 0 0 0 0 E0 0 0 0 0 0 0 false E0 E0 E0 E0 0 0 E0 E0 E0 E0 E0 E0 E0 E0 0 0 E0 E0 E0 E0 E0 E0 E0 E0 false 0 E0 E0 E0 E0 E0 E0 E0 E0 (iop .add .i64 1 c) h i j 0 f 0 0 0 0 b (cop .eql D 1) 0 0 0 0 0 0 0 0 0 0 0 0 0 0 0 0 0 0 0 0 E0 0 0 0 0 0 0 false E0 E0 E0 E0 0 0 E0 E0 E0 E0 E0 E0 E0 E0 0 0 E0 E0 E0 E0 E0 E0 E0 E0 false 0 E0 E0 E0 E0 E0 E0 E0 E0 0
 else
 if (cop .eql (iop .add .i64 1 c) 4) then
 (g21 e 6).bind fun d=>
 (g8 d 12).bind fun b=>
 (g26 q.1 q.2.1 q.2.2 E0 2 4096 12 3 0 0 false).bind fun o=>
 some ((iop .add .i64 1 c),h,i,j,0,f,b,0,0,0,0,false,0,0,0,0,0,0,0,0,0,0,0,0,0,0,0,0,0,0,0,0,E0,0,0,0,0,0,0,false,E0,(E0++[[AV.val (.int .i64 o.1),AV.val (.int .i64 o.2.1),AV.val (.int .i64 o.2.2.1),AV.slice false 3 o.2.2.2.1,AV.val (.int .i64 o.2.2.2.2.1),AV.val (.int .i64 o.2.2.2.2.2.1),AV.val (.int .i64 o.2.2.2.2.2.2.1),AV.val (.int .i64 o.2.2.2.2.2.2.2.1),AV.val (.int .i64 o.2.2.2.2.2.2.2.2.1),AV.val (.int .i64 o.2.2.2.2.2.2.2.2.2.1),AV.val (.bool o.2.2.2.2.2.2.2.2.2.2)]]),E0,E0,0,0,E0,E0,E0,E0,E0,E0,E0,E0,0,0,E0,E0,E0,E0,E0,E0,E0,E0,false,0,E0,E0,E0,E0,E0,E0,E0,E0)
 else
 if (cop .eql (iop .add .i64 1 c) 5) then
 (g21 e 6).bind fun d=>
 (g8 d 20).bind fun b=>
 some ((iop .add .i64 1 c),h,i,j,0,f,0,0,0,0,b,false,0,0,0,0,0,0,0,0,0,0,0,0,0,0,0,0,0,0,0,0,E0,0,0,0,0,0,0,false,E0,E0,E0,E0,0,0,E0,E0,E0,E0,E0,E0,E0,E0,0,0,E0,E0,E0,E0,E0,E0,E0,E0,false,0,E0,E0,E0,E0,E0,E0,E0,E0)
 else
 if (cop .eql (iop .add .i64 1 c) 6) then
 (g24 e 6).bind fun d=>
 (g27 d).bind fun b=>
 some ((iop .add .i64 1 c),h,i,j,0,f,0,0,0,0,0,false,0,0,0,0,0,0,0,0,0,0,0,0,0,0,0,0,0,0,0,0,E0,0,0,0,0,0,0,false,b,E0,E0,E0,0,0,E0,E0,E0,E0,E0,E0,E0,E0,0,0,E0,E0,E0,E0,E0,E0,E0,E0,false,0,E0,E0,E0,E0,E0,E0,E0,E0)
 else
 if (cop .eql (iop .add .i64 1 c) 12) then
 (g21 e 6).bind fun d=>
 (g28 d).bind fun b=>
 some ((iop .add .i64 1 c),h,i,j,0,f,0,0,0,0,0,false,0,0,0,0,0,0,0,0,0,0,0,0,0,0,0,0,0,0,0,0,E0,0,0,0,0,0,0,false,E0,E0,b,E0,0,0,E0,E0,E0,E0,E0,E0,E0,E0,0,0,E0,E0,E0,E0,E0,E0,E0,E0,false,0,E0,E0,E0,E0,E0,E0,E0,E0)
 else
 if (cop .eql (iop .add .i64 1 c) 13) then
 (g24 e 6).bind fun d=>
 (g29 d p).bind fun b=>
 some ((iop .add .i64 1 c),h,i,j,0,f,0,0,0,0,0,false,0,0,0,0,0,0,0,0,0,0,0,0,0,0,0,0,0,0,0,0,E0,0,0,0,0,0,0,false,E0,E0,E0,E0,0,0,E0,E0,E0,E0,E0,E0,E0,E0,b.1,b.2.1,b.2.2.1,b.2.2.2.1,b.2.2.2.2.1,b.2.2.2.2.2.1,b.2.2.2.2.2.2.1,b.2.2.2.2.2.2.2.1,b.2.2.2.2.2.2.2.2.1,b.2.2.2.2.2.2.2.2.2.1,b.2.2.2.2.2.2.2.2.2.2.1,b.2.2.2.2.2.2.2.2.2.2.2.1,(d4 (d8 b)).1,(d4 (d8 b)).2.1,(d2 (d4 (d8 b))).1,(d2 (d4 (d8 b))).2.1,(d16 b).1,(d16 b).2.1,(d2 (d16 b)).1,(d2 (d16 b)).2)
 else
 if (cop .eql (iop .add .i64 1 c) 14) then
 (g21 e 5).bind fun d=>
 (g8 d 70).bind fun b=>
 (g21 e 6).bind fun o=>
 (g28 o).bind fun D=>
 (g24 e 7).bind fun u=>
 (g30 u).bind fun l=>
 (g24 e 8).bind fun G=>
 (g21 e 9).bind fun y=>
 (g8 y 4).bind fun M=>
 (g9 G p M).bind fun A=>
 some ((iop .add .i64 1 c),h,i,j,0,f,0,0,0,0,0,false,0,0,0,0,0,0,0,0,0,0,0,0,0,0,0,0,0,0,0,0,E0,0,0,0,0,0,0,false,E0,E0,D,E0,b,l.1,l.2.1,l.2.2,A.1,A.2.1,A.2.2.1,A.2.2.2.1,A.2.2.2.2.1,A.2.2.2.2.2,0,0,E0,E0,E0,E0,E0,E0,E0,E0,false,0,E0,E0,E0,E0,E0,E0,E0,E0)
 else
 if (cop .eql (iop .add .i64 1 c) 17) then
 (g21 e 6).bind fun d=>
 (g28 d).bind fun b=>
 Zby Zw e 0 0 0 0 0 0 0 0 0 0 0 false 0 0 0 0 0 0 0 0 0 0 0 0 0 0 0 0 0 0 0 0 E0 0 0 0 0 0 0 false E0 E0 E0 E0 0 0 E0 E0 E0 E0 E0 E0 E0 E0 0 0 E0 E0 E0 E0 E0 E0 E0 E0 false 0 E0 E0 E0 E0 E0 E0 E0 E0 (iop .add .i64 1 c) h i j 0 f 0 0 0 0 0 false 0 0 0 0 0 0 0 0 0 0 0 0 0 0 0 0 0 0 0 0 E0 0 0 0 0 0 0 false E0 E0 b E0 0 0 E0 E0 E0 E0 E0 E0 E0 E0 0 0 E0 E0 E0 E0 E0 E0 E0 E0 false 0 E0 E0 E0 E0 E0 E0 E0 E0 0
 else
 some ((iop .add .i64 1 c),h,i,j,0,f,0,0,0,0,0,false,0,0,0,0,0,0,0,0,0,0,0,0,0,0,0,0,0,0,0,0,E0,0,0,0,0,0,0,false,E0,E0,E0,E0,0,0,E0,E0,E0,E0,E0,E0,E0,E0,0,0,E0,E0,E0,E0,E0,E0,E0,E0,false,0,E0,E0,E0,E0,E0,E0,E0,E0)
 else
 if (cop .lss (iop .add .i64 1 c) 17) then
 (g21 e 4).bind fun r=>
 (g8 r 5).bind fun f=>
 if (cop .eql (iop .add .i64 1 c) 1) then
 (g24 e 5).bind fun d=>
 (g23 d q.1 q.2.1 q.2.2 E0 2 4096 12 3 0 0 false).bind fun b=>
 some ((iop .add .i64 1 c),h,i,j,f,0,0,0,0,0,0,false,b.1,b.2.1,b.2.2.1,b.2.2.2.1,b.2.2.2.2.1,b.2.2.2.2.2.1,b.2.2.2.2.2.2.1,b.2.2.2.2.2.2.2.1,b.2.2.2.2.2.2.2.2.1,b.2.2.2.2.2.2.2.2.2.1,b.2.2.2.2.2.2.2.2.2.2.1,b.2.2.2.2.2.2.2.2.2.2.2.1,(d4 (d8 b)).1,(d4 (d8 b)).2.1,(d2 (d4 (d8 b))).1,(d2 (d4 (d8 b))).2.1,(d16 b).1,(d16 b).2.1,(d2 (d16 b)).1,(d2 (d16 b)).2.1,(d4 (d16 b)).1,(d4 (d16 b)).2.1,(d2 (d4 (d16 b))).1,(d2 (d4 (d16 b))).2.1,(d8 (d16 b)).1,(d8 (d16 b)).2.1,(d2 (d8 (d16 b))).1,(d2 (d8 (d16 b))).2,E0,E0,E0,E0,0,0,E0,E0,E0,E0,E0,E0,E0,E0,0,0,E0,E0,E0,E0,E0,E0,E0,E0,false,0,E0,E0,E0,E0,E0,E0,E0,E0)
 else
 if (cop .eql (iop .add .i64 1 c) 2) then
 (g21 e 6).bind fun d=>
 (g8 d 20).bind fun b=>
 (g21 e 7).bind fun o=>
 (g8 o 2).bind fun D=>
 ZbI Zw e p 0 0 0 0 0 0 0 0 0 0 0 false 0 0 0 0 0 0 0 0 0 0 0 0 0 0 0 0 0 0 0 0 E0 0 0 0 0 0 0 false E0 E0 E0 E0 0 0 E0 E0 E0 E0 E0 E0 E0 E0 0 0 E0 E0 E0 E0 E0 E0 E0 E0 false 0 E0 E0 E0 E0 E0 E0 E0 E0 (iop .add .i64 1 c) h i j f 0 0 0 0 0 b (cop .eql D 1) 0 0 0 0 0 0 0 0 0 0 0 0 0 0 0 0 0 0 0 0 E0 0 0 0 0 0 0 false E0 E0 E0 E0 0 0 E0 E0 E0 E0 E0 E0 E0 E0 0 0 E0 E0 E0 E0 E0 E0 E0 E0 false 0 E0 E0 E0 E0 E0 E0 E0 E0 0
 else
 if (cop .eql (iop .add .i64 1 c) 4) then
 (g21 e 6).bind fun d=>
 (g8 d 12).bind fun b=>
 (g26 q.1 q.2.1 q.2.2 E0 2 4096 12 3 0 0 false).bind fun o=>
 some ((iop .add .i64 1 c),h,i,j,f,0,b,0,0,0,0,false,0,0,0,0,0,0,0,0,0,0,0,0,0,0,0,0,0,0,0,0,E0,0,0,0,0,0,0,false,E0,(E0++[[AV.val (.int .i64 o.1),AV.val (.int .i64 o.2.1),AV.val (.int .i64 o.2.2.1),AV.slice false 3 o.2.2.2.1,AV.val (.int .i64 o.2.2.2.2.1),AV.val (.int .i64 o.2.2.2.2.2.1),AV.val (.int .i64 o.2.2.2.2.2.2.1),AV.val (.int .i64 o.2.2.2.2.2.2.2.1),AV.val (.int .i64 o.2.2.2.2.2.2.2.2.1),AV.val (.int .i64 o.2.2.2.2.2.2.2.2.2.1),AV.val (.bool o.2.2.2.2.2.2.2.2.2.2)]]),E0,E0,0,0,E0,E0,E0,E0,E0,E0,E0,E0,0,0,E0,E0,E0,E0,E0,E0,E0,E0,false,0,E0,E0,E0,E0,E0,E0,E0,E0)
 else
 if (cop .eql (iop .add .i64 1 c) 5) then
 (g21 e 6).bind fun d=>
 (g8 d 20).bind fun b=>
 some ((iop .add .i64 1 c),h,i,j,f,0,0,0,0,0,b,false,0,0,0,0,0,0,0,0,0,0,0,0,0,0,0,0,0,0,0,0,E0,0,0,0,0,0,0,false,E0,E0,E0,E0,0,0,E0,E0,E0,E0,E0,E0,E0,E0,0,0,E0,E0,E0,E0,E0,E0,E0,E0,false,0,E0,E0,E0,E0,E0,E0,E0,E0)
 else
 if (cop .eql (iop .add .i64 1 c) 6) then
 (g24 e 6).bind fun d=>
 (g27 d).bind fun b=>
 some ((iop .add .i64 1 c),h,i,j,f,0,0,0,0,0,0,false,0,0,0,0,0,0,0,0,0,0,0,0,0,0,0,0,0,0,0,0,E0,0,0,0,0,0,0,false,b,E0,E0,E0,0,0,E0,E0,E0,E0,E0,E0,E0,E0,0,0,E0,E0,E0,E0,E0,E0,E0,E0,false,0,E0,E0,E0,E0,E0,E0,E0,E0)
 else
 if (cop .eql (iop .add .i64 1 c) 12) then
 (g21 e 6).bind fun d=>
 (g28 d).bind fun b=>
 some ((iop .add .i64 1 c),h,i,j,f,0,0,0,0,0,0,false,0,0,0,0,0,0,0,0,0,0,0,0,0,0,0,0,0,0,0,0,E0,0,0,0,0,0,0,false,E0,E0,b,E0,0,0,E0,E0,E0,E0,E0,E0,E0,E0,0,0,E0,E0,E0,E0,E0,E0,E0,E0,false,0,E0,E0,E0,E0,E0,E0,E0,E0)
 else
 if (cop .eql (iop .add .i64 1 c) 13) then
 (g24 e 6).bind fun d=>
 (g29 d p).bind fun b=>
 some ((iop .add .i64 1 c),h,i,j,f,0,0,0,0,0,0,false,0,0,0,0,0,0,0,0,0,0,0,0,0,0,0,0,0,0,0,0,E0,0,0,0,0,0,0,false,E0,E0,E0,E0,0,0,E0,E0,E0,E0,E0,E0,E0,E0,b.1,b.2.1,b.2.2.1,b.2.2.2.1,b.2.2.2.2.1,b.2.2.2.2.2.1,b.2.2.2.2.2.2.1,b.2.2.2.2.2.2.2.1,b.2.2.2.2.2.2.2.2.1,b.2.2.2.2.2.2.2.2.2.1,b.2.2.2.2.2.2.2.2.2.2.1,b.2.2.2.2.2.2.2.2.2.2.2.1,(d4 (d8 b)).1,(d4 (d8 b)).2.1,(d2 (d4 (d8 b))).1,(d2 (d4 (d8 b))).2.1,(d16 b).1,(d16 b).2.1,(d2 (d16 b)).1,(d2 (d16 b)).2)
 else
 if (cop .eql (iop .add .i64 1 c) 14) then
 (g21 e 5).bind fun d=>
 (g8 d 70).bind fun b=>
 (g21 e 6).bind fun o=>
 (g28 o).bind fun D=>
 (g24 e 7).bind fun u=>
 (g30 u).bind fun l=>
 (g24 e 8).bind fun G=>
 (g21 e 9).bind fun y=>
 (g8 y 4).bind fun M=>
 (g9 G p M).bind fun A=>
 some ((iop .add .i64 1 c),h,i,j,f,0,0,0,0,0,0,false,0,0,0,0,0,0,0,0,0,0,0,0,0,0,0,0,0,0,0,0,E0,0,0,0,0,0,0,false,E0,E0,D,E0,b,l.1,l.2.1,l.2.2,A.1,A.2.1,A.2.2.1,A.2.2.2.1,A.2.2.2.2.1,A.2.2.2.2.2,0,0,E0,E0,E0,E0,E0,E0,E0,E0,false,0,E0,E0,E0,E0,E0,E0,E0,E0)
 else
 if (cop .eql (iop .add .i64 1 c) 17) then
 (g21 e 6).bind fun d=>
 (g28 d).bind fun b=>
 Zby Zw e 0 0 0 0 0 0 0 0 0 0 0 false 0 0 0 0 0 0 0 0 0 0 0 0 0 0 0 0 0 0 0 0 E0 0 0 0 0 0 0 false E0 E0 E0 E0 0 0 E0 E0 E0 E0 E0 E0 E0 E0 0 0 E0 E0 E0 E0 E0 E0 E0 E0 false 0 E0 E0 E0 E0 E0 E0 E0 E0 (iop .add .i64 1 c) h i j f 0 0 0 0 0 0 false 0 0 0 0 0 0 0 0 0 0 0 0 0 0 0 0 0 0 0 0 E0 0 0 0 0 0 0 false E0 E0 b E0 0 0 E0 E0 E0 E0 E0 E0 E0 E0 0 0 E0 E0 E0 E0 E0 E0 E0 E0 false 0 E0 E0 E0 E0 E0 E0 E0 E0 0
 else
 some ((iop .add .i64 1 c),h,i,j,f,0,0,0,0,0,0,false,0,0,0,0,0,0,0,0,0,0,0,0,0,0,0,0,0,0,0,0,E0,0,0,0,0,0,0,false,E0,E0,E0,E0,0,0,E0,E0,E0,E0,E0,E0,E0,E0,0,0,E0,E0,E0,E0,E0,E0,E0,E0,false,0,E0,E0,E0,E0,E0,E0,E0,E0)
 else
 if (cop .eql (iop .add .i64 1 c) 1) then
 (g24 e 5).bind fun r=>
 (g23 r q.1 q.2.1 q.2.2 E0 2 4096 12 3 0 0 false).bind fun f=>
 some ((iop .add .i64 1 c),h,i,j,0,0,0,0,0,0,0,false,f.1,f.2.1,f.2.2.1,f.2.2.2.1,f.2.2.2.2.1,f.2.2.2.2.2.1,f.2.2.2.2.2.2.1,f.2.2.2.2.2.2.2.1,f.2.2.2.2.2.2.2.2.1,f.2.2.2.2.2.2.2.2.2.1,f.2.2.2.2.2.2.2.2.2.2.1,f.2.2.2.2.2.2.2.2.2.2.2.1,(d4 (d8 f)).1,(d4 (d8 f)).2.1,(d2 (d4 (d8 f))).1,(d2 (d4 (d8 f))).2.1,(d16 f).1,(d16 f).2.1,(d2 (d16 f)).1,(d2 (d16 f)).2.1,(d4 (d16 f)).1,(d4 (d16 f)).2.1,(d2 (d4 (d16 f))).1,(d2 (d4 (d16 f))).2.1,(d8 (d16 f)).1,(d8 (d16 f)).2.1,(d2 (d8 (d16 f))).1,(d2 (d8 (d16 f))).2,E0,E0,E0,E0,0,0,E0,E0,E0,E0,E0,E0,E0,E0,0,0,E0,E0,E0,E0,E0,E0,E0,E0,false,0,E0,E0,E0,E0,E0,E0,E0,E0)
 else
 if (cop .eql (iop .add .i64 1 c) 2) then
 (g21 e 6).bind fun r=>
 (g8 r 20).bind fun f=>
 (g21 e 7).bind fun d=>
 (g8 d 2).bind fun b=>
 ZbI Zw e p 0 0 0 0 0 0 0 0 0 0 0 false 0 0 0 0 0 0 0 0 0 0 0 0 0 0 0 0 0 0 0 0 E0 0 0 0 0 0 0 false E0 E0 E0 E0 0 0 E0 E0 E0 E0 E0 E0 E0 E0 0 0 E0 E0 E0 E0 E0 E0 E0 E0 false 0 E0 E0 E0 E0 E0 E0 E0 E0 (iop .add .i64 1 c) h i j 0 0 0 0 0 0 f (cop .eql b 1) 0 0 0 0 0 0 0 0 0 0 0 0 0 0 0 0 0 0 0 0 E0 0 0 0 0 0 0 false E0 E0 E0 E0 0 0 E0 E0 E0 E0 E0 E0 E0 E0 0 0 E0 E0 E0 E0 E0 E0 E0 E0 false 0 E0 E0 E0 E0 E0 E0 E0 E0 0
 else
 if (cop .eql (iop .add .i64 1 c) 4) then
 (g21 e 6).bind fun r=>
 (g8 r 12).bind fun f=>
 (g26 q.1 q.2.1 q.2.2 E0 2 4096 12 3 0 0 false).bind fun d=>
 some ((iop .add .i64 1 c),h,i,j,0,0,f,0,0,0,0,false,0,0,0,0,0,0,0,0,0,0,0,0,0,0,0,0,0,0,0,0,E0,0,0,0,0,0,0,false,E0,(E0++[[AV.val (.int .i64 d.1),AV.val (.int .i64 d.2.1),AV.val (.int .i64 d.2.2.1),AV.slice false 3 d.2.2.2.1,AV.val (.int .i64 d.2.2.2.2.1),AV.val (.int .i64 d.2.2.2.2.2.1),AV.val (.int .i64 d.2.2.2.2.2.2.1),AV.val (.int .i64 d.2.2.2.2.2.2.2.1),AV.val (.int .i64 d.2.2.2.2.2.2.2.2.1),AV.val (.int .i64 d.2.2.2.2.2.2.2.2.2.1),AV.val (.bool d.2.2.2.2.2.2.2.2.2.2)]]),E0,E0,0,0,E0,E0,E0,E0,E0,E0,E0,E0,0,0,E0,E0,E0,E0,E0,E0,E0,E0,false,0,E0,E0,E0,E0,E0,E0,E0,E0)
 else
 if (cop .eql (iop .add .i64 1 c) 5) then
 (g21 e 6).bind fun r=>
 (g8 r 20).bind fun f=>
 some ((iop .add .i64 1 c),h,i,j,0,0,0,0,0,0,f,false,0,0,0,0,0,0,0,0,0,0,0,0,0,0,0,0,0,0,0,0,E0,0,0,0,0,0,0,false,E0,E0,E0,E0,0,0,E0,E0,E0,E0,E0,E0,E0,E0,0,0,E0,E0,E0,E0,E0,E0,E0,E0,false,0,E0,E0,E0,E0,E0,E0,E0,E0)
 else
 if (cop .eql (iop .add .i64 1 c) 6) then
 (g24 e 6).bind fun r=>
 (g27 r).bind fun f=>
 some ((iop .add .i64 1 c),h,i,j,0,0,0,0,0,0,0,false,0,0,0,0,0,0,0,0,0,0,0,0,0,0,0,0,0,0,0,0,E0,0,0,0,0,0,0,false,f,E0,E0,E0,0,0,E0,E0,E0,E0,E0,E0,E0,E0,0,0,E0,E0,E0,E0,E0,E0,E0,E0,false,0,E0,E0,E0,E0,E0,E0,E0,E0)
 else
 if (cop .eql (iop .add .i64 1 c) 12) then
 (g21 e 6).bind fun r=>
 (g28 r).bind fun f=>
 some ((iop .add .i64 1 c),h,i,j,0,0,0,0,0,0,0,false,0,0,0,0,0,0,0,0,0,0,0,0,0,0,0,0,0,0,0,0,E0,0,0,0,0,0,0,false,E0,E0,f,E0,0,0,E0,E0,E0,E0,E0,E0,E0,E0,0,0,E0,E0,E0,E0,E0,E0,E0,E0,false,0,E0,E0,E0,E0,E0,E0,E0,E0)
 else
 if (cop .eql (iop .add .i64 1 c) 13) then
 (g24 e 6).bind fun r=>
 (g29 r p).bind fun f=>
 some ((iop .add .i64 1 c),h,i,j,0,0,0,0,0,0,0,false,0,0,0,0,0,0,0,0,0,0,0,0,0,0,0,0,0,0,0,0,E0,0,0,0,0,0,0,false,E0,E0,E0,E0,0,0,E0,E0,E0,E0,E0,E0,E0,E0,f.1,f.2.1,f.2.2.1,f.2.2.2.1,f.2.2.2.2.1,f.2.2.2.2.2.1,f.2.2.2.2.2.2.1,f.2.2.2.2.2.2.2.1,f.2.2.2.2.2.2.2.2.1,f.2.2.2.2.2.2.2.2.2.1,f.2.2.2.2.2.2.2.2.2.2.1,f.2.2.2.2.2.2.2.2.2.2.2.1,(d4 (d8 f)).1,(d4 (d8 f)).2.1,(d2 (d4 (d8 f))).1,(d2 (d4 (d8 f))).2.1,(d16 f).1,(d16 f).2.1,(d2 (d16 f)).1,(d2 (d16 f)).2)
 else
 if (cop .eql (iop .add .i64 1 c) 14) then
 (g21 e 5).bind fun r=>
 (g8 r 70).bind fun f=>
 (g21 e 6).bind fun d=>
 (g28 d).bind fun b=>
 (g24 e 7).bind fun o=>
 (g30 o).bind fun D=>
 (g24 e 8).bind fun w=>
 (g21 e 9).bind fun K=>
 (g8 K 4).bind fun G=>
 (g9 w p G).bind fun y=>
 some ((iop .add .i64 1 c),h,i,j,0,0,0,0,0,0,0,false,0,0,0,0,0,0,0,0,0,0,0,0,0,0,0,0,0,0,0,0,E0,0,0,0,0,0,0,false,E0,E0,b,E0,f,D.1,D.2.1,D.2.2,y.1,y.2.1,y.2.2.1,y.2.2.2.1,y.2.2.2.2.1,y.2.2.2.2.2,0,0,E0,E0,E0,E0,E0,E0,E0,E0,false,0,E0,E0,E0,E0,E0,E0,E0,E0)
 else
 if (cop .eql (iop .add .i64 1 c) 17) then
 (g21 e 6).bind fun r=>
 (g28 r).bind fun f=>
 Zby Zw e 0 0 0 0 0 0 0 0 0 0 0 false 0 0 0 0 0 0 0 0 0 0 0 0 0 0 0 0 0 0 0 0 E0 0 0 0 0 0 0 false E0 E0 E0 E0 0 0 E0 E0 E0 E0 E0 E0 E0 E0 0 0 E0 E0 E0 E0 E0 E0 E0 E0 false 0 E0 E0 E0 E0 E0 E0 E0 E0 (iop .add .i64 1 c) h i j 0 0 0 0 0 0 0 false 0 0 0 0 0 0 0 0 0 0 0 0 0 0 0 0 0 0 0 0 E0 0 0 0 0 0 0 false E0 E0 f E0 0 0 E0 E0 E0 E0 E0 E0 E0 E0 0 0 E0 E0 E0 E0 E0 E0 E0 E0 false 0 E0 E0 E0 E0 E0 E0 E0 E0 0
 else
 some ((iop .add .i64 1 c),h,i,j,0,0,0,0,0,0,0,false,0,0,0,0,0,0,0,0,0,0,0,0,0,0,0,0,0,0,0,0,E0,0,0,0,0,0,0,false,E0,E0,E0,E0,0,0,E0,E0,E0,E0,E0,E0,E0,E0,0,0,E0,E0,E0,E0,E0,E0,E0,E0,false,0,E0,E0,E0,E0,E0,E0,E0,E0)):=by kernel_rfl
end Go.Proofs.YthdihcchfjlgkaaGreat
