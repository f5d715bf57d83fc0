/- Functions of the program, as what they compute. -/
import Derived.Test.YtmjkdbpffdampaaFAc
namespace Go.Proofs.Ytmjkdbpffdampaa
open Go Go.AM
set_option linter.unusedVariables false
set_option maxRecDepth 100000
noncomputable def F11:Fn:=⟨123,[14,15,16],[(5,[(0,.c (.int .i64)),(1,.c (.int .i64)),(2,.c (.int .i64)),(3,.c (.slice 15)),(4,.c (.slice 3)),(5,.c (.slice 1)),(13,.box hs5),(14,.box hs0),(17,.c (.slice 1)),(58,.c (.slice 1)),(59,.c (.int .i64)),(60,.c (.int .i64))])],[],0,[],[],Try.f11,[.c (.int .i64),.c (.int .i64),.c (.int .i64),.c (.slice 15),.c (.slice 3),.c (.slice 1),.agg hs5],[.agg hs0,.c (.slice 1),.c (.int .i64)],[(32,F32.S),(33,F33.S),(34,F34.S),(35,F35.S),(22,F22.S),(36,F36.S),(37,F37.S),(38,F38.S)]⟩
theorem ZnV:F11.S.Ok Try.prog 11:=F11.ok Try.func11 (by kernel_rfl) ⟨ZoQ,⟨Zpv,⟨Zpj,⟨Zpa,⟨Zod,⟨Zpt,⟨Zo0,⟨Zow,trivial⟩⟩⟩⟩⟩⟩⟩⟩
noncomputable def g11 (a b c:Int) (d e f:LL) (h j k m n o p q r s t u:Int):Option (Qt1):=F11.S.g [.i a,.i b,.i c,.l d,.l e,.l f,.i h,.i j,.i k,.i m,.i n,.i o,.i p,.i q,.i r,.i s,.i t,.i u]
noncomputable def ZcX (k:Nat) (a c d:Int) (e f g:LL) (h j m n o p q r s t u v w x y z A C D E G H J K L M N O P Q R T:Int) (U:LL) (V W X Y Z aa:Int) (ab:Bool) (ac ad:LL) (ae af:Int):Option (Qt1):=F11.lp [1,1,1,1,0,1,0,1,2] 0 r0 k [.i a,.i c,.i d,.l e,.l f,.l g,.i h,.i j,.i m,.i n,.i o,.i p,.i q,.i r,.i s,.i t,.i u,.i v,.i w,.i x,.i y,.i z,.i A,.i C,.i D,.i E,.i G,.i H,.i J,.i K,.i L,.i M,.i N,.i O,.i P,.i Q,.i R,.i T,.l U,.i V,.i W,.i X,.i Y,.i Z,.i aa,.b ab,.l ac,.l ad,.i ae,.i af]
theorem Zfd (k:Nat) (t u r:Int) (h s x:LL) (c d i j l m e n f o p q A C D E G H J K L M N O P Q R T U V W X:Int) (Y:LL) (Z aa ab ac ad ae:Int) (af:Bool) (v y:LL) (z w:Int):ZcX (k+1) t u r h s x c d i j l m e n f o p q A C D E G H J K L M N O P Q R T U V W X Y Z aa ab ac ad ae af v y z w =
 (if (cop .lss w z) then
 Zq y w [.int .i64] fun (g:Int)=>
 Zq h g hs3 fun (a:Qt9)=>
 (g34 a.1 a.2.1 a.2.2.1 a.2.2.2.1 a.2.2.2.2.1 a.2.2.2.2.2.1 a.2.2.2.2.2.2.1 a.2.2.2.2.2.2.2.1 a.2.2.2.2.2.2.2.2.1 a.2.2.2.2.2.2.2.2.2.1 a.2.2.2.2.2.2.2.2.2.2.1 a.2.2.2.2.2.2.2.2.2.2.2.1 (d4 (d8 a)).1 (d4 (d8 a)).2.1 (d2 (d4 (d8 a)))).bind fun b=>
 if b then
 some (0,0,0,0,0,0,0,0,0,0,0,0,0,0,0,0,0,0,0,0,E0,0,0,0,0,0,0,false,E0,4)
 else
 ZcX k t u r h s x c d i j l m e n f o p q A C D E G H J K L M N O P Q R T U V W X Y Z aa ab ac ad ae af v y z (iop .add .i64 w 1)
 else
 if (cop .eql c 1) then
 (g35 h s c d i j l m e n f o p q).bind fun g=>
 if (cop .neq g 0) then
 some (0,0,0,0,0,0,0,0,0,0,0,0,0,0,0,0,0,0,0,0,E0,0,0,0,0,0,0,false,E0,g)
 else
 (g22 s f e).bind fun a=>
 if (!a.2) then
 some (0,0,0,0,0,0,0,0,0,0,0,0,0,0,0,0,0,0,0,0,E0,0,0,0,0,0,0,false,E0,11)
 else
 some (t,u,0,c,d,i,j,l,m,e,n,f,o,p,q,a.1,r,0,0,0,E0,0,0,0,0,0,0,false,v,0)
 else
 (g36 r h x c d i j l m e n f o p q).bind fun g=>
 Zq h d hs3 fun (a:Qt9)=>
 (g37 a.1 a.2.1 a.2.2.1 a.2.2.2.1 a.2.2.2.2.1 a.2.2.2.2.2.1 a.2.2.2.2.2.2.1 a.2.2.2.2.2.2.2.1 a.2.2.2.2.2.2.2.2.1 a.2.2.2.2.2.2.2.2.2.1 a.2.2.2.2.2.2.2.2.2.2.1).bind fun b=>
 (g38 b.2.2.2.2.1 b.2.2.2.2.2.1 b.2.2.2.2.2.2.1 b.2.2.2.2.2.2.2.1 b.2.2.2.2.2.2.2.2.1 b.2.2.2.2.2.2.2.2.2.1 b.2.2.2.2.2.2.2.2.2.2).bind fun ag=>
 if (cop .neq g 0) then
 some (0,0,0,0,0,0,0,0,0,0,0,0,0,0,0,0,0,0,0,0,E0,0,0,0,0,0,0,false,E0,g)
 else
 (g22 s ag.1 ag.2).bind fun ah=>
 if (!ah.2) then
 some (0,0,0,0,0,0,0,0,0,0,0,0,0,0,0,0,0,0,0,0,E0,0,0,0,0,0,0,false,E0,11)
 else
 some (t,u,0,c,d,i,j,l,m,e,n,f,o,p,q,ah.1,r,b.1,b.2.1,b.2.2.1,b.2.2.2.1,b.2.2.2.2.1,b.2.2.2.2.2.1,b.2.2.2.2.2.2.1,b.2.2.2.2.2.2.2.1,b.2.2.2.2.2.2.2.2.1,b.2.2.2.2.2.2.2.2.2.1,b.2.2.2.2.2.2.2.2.2.2,v,0)):=by kernel_rfl
theorem Zmr (a o p:Int) (q r s:LL) (b c d e f g h i j k l m:Int):g11 a o p q r s b c d e f g h i j k l m =
 (if (cop .lss a 0) then
 some (0,0,0,0,0,0,0,0,0,0,0,0,0,0,0,0,0,0,0,0,E0,0,0,0,0,0,0,false,E0,1)
 else
 if (cop .geq a 32) then
 some (0,0,0,0,0,0,0,0,0,0,0,0,0,0,0,0,0,0,0,0,E0,0,0,0,0,0,0,false,E0,1)
 else
 if (cop .lss o 1) then
 some (0,0,0,0,0,0,0,0,0,0,0,0,0,0,0,0,0,0,0,0,E0,0,0,0,0,0,0,false,E0,1)
 else
 if (cop .gtr o 1073741824) then
 some (0,0,0,0,0,0,0,0,0,0,0,0,0,0,0,0,0,0,0,0,E0,0,0,0,0,0,0,false,E0,1)
 else
 if (cop .neq p 32) then
 if (cop .neq p 39) then
 some (0,0,0,0,0,0,0,0,0,0,0,0,0,0,0,0,0,0,0,0,E0,0,0,0,0,0,0,false,E0,1)
 else
 (g32 a (List.length q:Int) b c d e f g h i j k l m).bind fun t=>
 if (!t) then
 some (0,0,0,0,0,0,0,0,0,0,0,0,0,0,0,0,0,0,0,0,E0,0,0,0,0,0,0,false,E0,1)
 else
 (g33 b c d e f g h i j k l m).bind fun n=>
 ZcX Z6 a o p q r s b c d e f g h i j k l m 0 0 0 0 0 0 0 0 0 0 0 0 0 0 0 0 0 0 0 0 E0 0 0 0 0 0 0 false n n (List.length n:Int) 0
 else
 (g32 a (List.length q:Int) b c d e f g h i j k l m).bind fun t=>
 if (!t) then
 some (0,0,0,0,0,0,0,0,0,0,0,0,0,0,0,0,0,0,0,0,E0,0,0,0,0,0,0,false,E0,1)
 else
 (g33 b c d e f g h i j k l m).bind fun n=>
 ZcX Z6 a o p q r s b c d e f g h i j k l m 0 0 0 0 0 0 0 0 0 0 0 0 0 0 0 0 0 0 0 0 E0 0 0 0 0 0 0 false n n (List.length n:Int) 0):=by kernel_rfl
noncomputable def F12:Fn:=⟨32,[2],[(3,[(0,.c (.slice 15)),(3,.c (.own true 62)),(4,.c (.int .i64))])],[],0,[2,3,30],[],Try.f12,[.c (.slice 15)],[.c (.own true 62)],[(39,F39.S)]⟩
theorem ZoO:F12.S.Ok Try.prog 12:=F12.ok Try.func12 (by kernel_rfl) ⟨ZlW,trivial⟩
noncomputable def g12 (a:LL):Option (LL):=F12.S.g [.l a]
noncomputable def Zge (k:Nat) (a b:LL) (c:Int):Option (LL):=F12.lp [0] 0 r0 k [.l a,.l b,.i c]
theorem Zfb (k:Nat) (c f:LL) (d:Int):Zge (k+1) c f d =
 (if (cop .lss d (List.length c:Int)) then
 Zq c d hs3 fun (b:Qt9)=>
 (g39 b.1 b.2.1 b.2.2.1 b.2.2.2.1 b.2.2.2.2.1 b.2.2.2.2.2.1 b.2.2.2.2.2.2.1 b.2.2.2.2.2.2.2.1 b.2.2.2.2.2.2.2.2.1 b.2.2.2.2.2.2.2.2.2.1 b.2.2.2.2.2.2.2.2.2.2.1).bind fun a=>
 Zq c d hs3 fun (g:Qt9)=>
 Zq c d hs3 fun (e:Qt9)=>
 Zj (Jr f (E0++[[AV.val (.int .i64 a.1),AV.val (.int .i64 a.2.1),AV.val (.int .i64 a.2.2.1),AV.slice false 3 a.2.2.2.1,AV.val (.int .i64 a.2.2.2.2.1),AV.val (.int .i64 a.2.2.2.2.2.1),AV.val (.int .i64 a.2.2.2.2.2.2.1),AV.val (.int .i64 a.2.2.2.2.2.2.2.1),AV.val (.int .i64 a.2.2.2.2.2.2.2.2.1),AV.val (.int .i64 a.2.2.2.2.2.2.2.2.2.1),AV.val (.bool a.2.2.2.2.2.2.2.2.2.2),AV.val (.int .i64 g.2.2.2.2.2.2.2.2.2.2.2.1),AV.val (.int .i64 (d4 (d8 e)).1),AV.val (.int .i64 (d4 (d8 e)).2.1),AV.val (.int .i64 (d2 (d4 (d8 e))))]]) 136)<|
 Zge k c (f++(E0++[[AV.val (.int .i64 a.1),AV.val (.int .i64 a.2.1),AV.val (.int .i64 a.2.2.1),AV.slice false 3 a.2.2.2.1,AV.val (.int .i64 a.2.2.2.2.1),AV.val (.int .i64 a.2.2.2.2.2.1),AV.val (.int .i64 a.2.2.2.2.2.2.1),AV.val (.int .i64 a.2.2.2.2.2.2.2.1),AV.val (.int .i64 a.2.2.2.2.2.2.2.2.1),AV.val (.int .i64 a.2.2.2.2.2.2.2.2.2.1),AV.val (.bool a.2.2.2.2.2.2.2.2.2.2),AV.val (.int .i64 g.2.2.2.2.2.2.2.2.2.2.2.1),AV.val (.int .i64 (d4 (d8 e)).1),AV.val (.int .i64 (d4 (d8 e)).2.1),AV.val (.int .i64 (d2 (d4 (d8 e))))]])) (iop .add .i64 d 1)
 else
 some (f)):=by kernel_rfl
theorem ZmQ (a:LL):g12 a =
 (Zge Z6 a E0 0):=by kernel_rfl
end Go.Proofs.Ytmjkdbpffdampaa
