/- Functions of the program, as what they compute. -/
import Derived.Test.YtlgmnddelljbmaaGreatBOh
namespace Go.Proofs.YtlgmnddelljbmaaGreat
open Go Go.AM
set_option linter.unusedVariables false
set_option maxRecDepth 100000
set_option synthInstance.maxSize 2000
set_option synthInstance.maxHeartbeats 2000000
noncomputable def F10:Fn:=⟨2,[0],[],[],0,[],[],Tryz.f10,[],[.agg [.int .i64,.int .i64,.bool]],[]⟩
theorem ZoI:F10.S.Ok Tryz.prog 10:=F10.ok Tryz.func10 (by kernel_rfl) trivial
noncomputable def g10:Option (Int×Int×Bool):=F10.S.g []
noncomputable def F22:Fn:=⟨16,[8],[],[],0,[],[],Tryz.f22,[.c (.int .i64),.c (.int .i64),.c (.int .i64),.c (.int .i64)],[.agg hs8],[]⟩
theorem ZoD:F22.S.Ok Tryz.prog 22:=F22.ok Tryz.func22 (by kernel_rfl) trivial
noncomputable def g22 (a b c d:Int):Option (Qt17):=F22.S.g [.i a,.i b,.i c,.i d]
theorem ZlN (a b c d:Int):g22 a b c d =
 (some (a,b,0,1,0,c,0,0,0,12,0,d,0,0,0,0,32,0,0,0,E0,0,0,0,0,0,0,false)):=by kernel_rfl
noncomputable def F8:Fn:=⟨63,[0],[],[],0,[],[],Tryz.f8,[],[.c (.bool)],[(10,F10.S),(9,F9.S),(22,F22.S),(14,F14.S),(18,F18.S),(21,F21.S)]⟩
theorem ok8:F8.S.Ok Tryz.prog 8:=F8.ok Tryz.func8 (by kernel_rfl) ⟨ZoI,⟨ok9,⟨ZoD,⟨ZoK,⟨ZoM,⟨Zpa,trivial⟩⟩⟩⟩⟩⟩
noncomputable def g8:Option (Bool):=F8.S.g []
noncomputable def F12:Fn:=⟨16,[4],[],[],0,[],[],Tryz.f12,[.c (.int .i64),.c (.int .i64)],[.c (.int .i64)],[]⟩
theorem Zpo:F12.S.Ok Tryz.prog 12:=F12.ok Tryz.func12 (by kernel_rfl) trivial
noncomputable def g12 (a b:Int):Option (Int):=F12.S.g [.i a,.i b]
theorem ZlB (b a:Int):g12 b a =
 (if (cop .lss a 1) then
 some (0)
 else
 J6 ((a:Int)≠0)<|
 if (cop .lss (iop .rem .i64 b a) 0) then
 some ((iop .add .i64 (iop .rem .i64 b a) a))
 else
 some ((iop .rem .i64 b a))):=by kernel_rfl
noncomputable def F5:Fn:=⟨148,[2],[(7,[(0,.c (.slice 1)),(3,.ptr 15 0),(4,.c (.int .i64)),(5,.c (.own false 65)),(6,.c (.int .i64)),(15,.box hs4)]),(11,[(0,.c (.slice 1)),(3,.ptr 15 0),(4,.c (.int .i64)),(5,.c (.slice 74)),(7,.c (.int .i64)),(15,.box hs4)]),(17,[(0,.c (.slice 1)),(3,.ptr 15 0),(4,.c (.int .i64)),(5,.c (.slice 74)),(7,.c (.int .i64)),(8,.c (.bool)),(9,.c (.int .i64)),(15,.box hs4)])],[],0,[],[],Tryz.f5,[.c (.slice 1)],[.c (.bool)],[(10,F10.S),(9,F9.S),(12,F12.S),(22,F22.S),(14,F14.S),(23,F23.S),(18,F18.S),(24,F24.S),(8,F8.S)]⟩
theorem ok5:F5.S.Ok Tryz.prog 5:=F5.ok Tryz.func5 (by kernel_rfl) ⟨ZoI,⟨ok9,⟨Zpo,⟨ZoD,⟨ZoK,⟨Zo7,⟨ZoM,⟨Zpj,⟨ok8,trivial⟩⟩⟩⟩⟩⟩⟩⟩⟩
noncomputable def g5 (a:LL):Option (Bool):=F5.S.g [.l a]
noncomputable def Zkj (rec0:List V→Option (Bool)) (k:Nat) (a:LL) (c:Int) (d:LL) (e:Int) (f:Bool) (g h j m:Int) (n:Bool) (o p:LL) (q r s t u v w x y z A C D E G H J K L M:Int) (N:LL) (O P Q R T U:Int) (W:Bool) (X:Int) (Y Z aa:LL):Option (Bool):=F5.lp [3,1,2,1,0,1,0,1,3,1,0,1,0] 1 (ZiX r0 0 rec0) k [.l a,.i c,.l d,.i e,.b f,.i g,.i h,.i j,.i m,.b n,.l o,.l p,.i q,.i r,.i s,.i t,.i u,.i v,.i w,.i x,.i y,.i z,.i A,.i C,.i D,.i E,.i G,.i H,.i J,.i K,.i L,.i M,.l N,.i O,.i P,.i Q,.i R,.i T,.i U,.b W,.i X,.l Y,.l Z,.l aa]
theorem Zjs (rec0:List V→Option (Bool)) (k:Nat) (c:LL) (g:Int) (d:LL) (e:Int) (x4:Bool) (f h j m:Int) (n:Bool) (o p:LL) (q r s t u v w x y z A C D E G H J K L M:Int) (N:LL) (O P Q R T U:Int) (W:Bool) (X:Int) (Y Z aa:LL):Zkj rec0 (k+1) c g d e x4 f h j m n o p q r s t u v w x y z A C D E G H J K L M N O P Q R T U W X Y Z aa =
 (if (cop .lss f e) then
 if x4 then
 Z8 c f [.int .i64] fun (ac:Int)=>
 (g12 ac 16).bind fun ae=>
 Z8 c e [.int .i64] fun (af:Int)=>
 (g12 af 16).bind fun ag=>
 Zkj rec0 k c g d e (cop .neq ae ag) (iop .add .i64 f 1) h j m n o p q r s t u v w x y z A C D E G H J K L M N O P Q R T U W X Y Z aa
 else
 Zkj rec0 k c g d e false (iop .add .i64 f 1) h j m n o p q r s t u v w x y z A C D E G H J K L M N O P Q R T U W X Y Z aa
 else
 Z8 d 0 hs0 fun (ac:Qt3)=>
 if (!((cop .eql ac.2.2.2.2.2.2.2.2.2.2.1 0) == x4)) then
 some (false)
 else
 Z8 d 0 hs0 fun (ah:Qt3)=>
 Z8 d 0 hs0 fun (ad:Qt3)=>
 (g18 h j m n o p q r s t u v w x y z A C D E G H J K L M N O P Q R T U W X Y Z aa 3 0 ah.2.2.2.1 0 0 0 0 ad.2.2.2.2.2.2.2.1 ad.2.2.2.2.2.2.2.2.1 ad.2.2.2.2.2.2.2.2.2.1 0 false 0 0 0 0 0 0 0 0 0 0 0 0 0 0 0 0 0 0 0 0 E0 0 0 0 0 0 0 false E0 E0 E0 E0 0 0 E0 E0 E0 E0 E0 E0 E0 E0 0 0 E0 E0 E0 E0 E0 E0 E0 E0 false 0 E0 E0 E0 E0 E0 E0 E0 E0).bind fun a=>
 rec0 [.l c,.i g,.l a.1,.i (iop .add .i64 e 1),.i a.2.2.1,.i a.2.2.2.1,.i a.2.2.2.2.1,.b a.2.2.2.2.2.1,.l a.2.2.2.2.2.2.1,.l a.2.2.2.2.2.2.2.1,.i a.2.2.2.2.2.2.2.2.1,.i a.2.2.2.2.2.2.2.2.2.1,.i a.2.2.2.2.2.2.2.2.2.2.1,.i a.2.2.2.2.2.2.2.2.2.2.2.1,.i (d4 (d8 a)).1,.i (d4 (d8 a)).2.1,.i (d2 (d4 (d8 a))).1,.i (d2 (d4 (d8 a))).2.1,.i (d16 a).1,.i (d16 a).2.1,.i (d2 (d16 a)).1,.i (d2 (d16 a)).2.1,.i (d4 (d16 a)).1,.i (d4 (d16 a)).2.1,.i (d2 (d4 (d16 a))).1,.i (d2 (d4 (d16 a))).2.1,.i (d8 (d16 a)).1,.i (d8 (d16 a)).2.1,.i (d2 (d8 (d16 a))).1,.i (d2 (d8 (d16 a))).2.1,.l (d4 (d8 (d16 a))).1,.i (d4 (d8 (d16 a))).2.1,.i (d2 (d4 (d8 (d16 a)))).1,.i (d2 (d4 (d8 (d16 a)))).2.1,.i (d16 (d16 a)).1,.i (d16 (d16 a)).2.1,.i (d2 (d16 (d16 a))).1,.b (d2 (d16 (d16 a))).2.1,.i (d4 (d16 (d16 a))).1,.l (d4 (d16 (d16 a))).2.1,.l (d2 (d4 (d16 (d16 a)))).1,.l (d2 (d4 (d16 (d16 a)))).2]):=by kernel_rfl
noncomputable def ZkR (k:Nat) (a:LL) (c:Int) (d:LL) (e f g h:Int) (j:Bool) (m n:LL) (o p q r s t u v w x y z A C D E G H J K:Int) (L:LL) (M N O P Q R:Int) (T:Bool) (U:Int) (V W X:LL):Option (Bool):=F5.lp [3,1,0] 0 r0 k [.l a,.i c,.l d,.i e,.i f,.i g,.i h,.b j,.l m,.l n,.i o,.i p,.i q,.i r,.i s,.i t,.i u,.i v,.i w,.i x,.i y,.i z,.i A,.i C,.i D,.i E,.i G,.i H,.i J,.i K,.l L,.i M,.i N,.i O,.i P,.i Q,.i R,.b T,.i U,.l V,.l W,.l X]
theorem Zgk (k:Nat) (e:LL) (d:Int) (b:LL) (c f g h:Int) (i:Bool) (j l:LL) (m n o p q r s t u v w x y z A C D E G H:Int) (J:LL) (K L M N O P:Int) (Q:Bool) (R:Int) (T U V:LL):ZkR (k+1) e d b c f g h i j l m n o p q r s t u v w x y z A C D E G H J K L M N O P Q R T U V =
 (if (cop .lss c d) then
 if (cop .neq (List.length b:Int) 1) then
 some (false)
 else
 Z8 b 0 hs0 fun (W:Qt3)=>
 if (cop .neq W.1 2) then
 some (false)
 else
 Z8 b 0 hs0 fun (X:Qt3)=>
 if (cop .neq X.2.2.2.2.2.2.2.2.1 (iop .add .i64 c 1)) then
 some (false)
 else
 Z8 b 0 hs0 fun (Y:Qt3)=>
 Z8 e c [.int .i64] fun (Z:Int)=>
 (g12 Z 4).bind fun aa=>
 if (cop .neq Y.2.2.2.1 aa) then
 some (false)
 else
 (g23 f g h i j l m n o p q r s t u v w x y z A C D E G H J K L M N O P Q R T U V).bind fun a=>
 if (cop .neq (List.length a.1:Int) (iop .sub .i64 (iop .sub .i64 d c) 1)) then
 some (false)
 else
 Zkj (F5.lp [3,1,0] 0 r0 k) KX e d b c true 0 a.2.1 a.2.2.1 a.2.2.2.1 a.2.2.2.2.1 a.2.2.2.2.2.1 a.2.2.2.2.2.2.1 a.2.2.2.2.2.2.2.1 a.2.2.2.2.2.2.2.2.1 a.2.2.2.2.2.2.2.2.2.1 a.2.2.2.2.2.2.2.2.2.2.1 a.2.2.2.2.2.2.2.2.2.2.2.1 (d4 (d8 a)).1 (d4 (d8 a)).2.1 (d2 (d4 (d8 a))).1 (d2 (d4 (d8 a))).2.1 (d16 a).1 (d16 a).2.1 (d2 (d16 a)).1 (d2 (d16 a)).2.1 (d4 (d16 a)).1 (d4 (d16 a)).2.1 (d2 (d4 (d16 a))).1 (d2 (d4 (d16 a))).2.1 (d8 (d16 a)).1 (d8 (d16 a)).2.1 (d2 (d8 (d16 a))).1 (d2 (d8 (d16 a))).2.1 (d4 (d8 (d16 a))).1 (d4 (d8 (d16 a))).2.1 (d2 (d4 (d8 (d16 a)))).1 (d2 (d4 (d8 (d16 a)))).2.1 (d16 (d16 a)).1 (d16 (d16 a)).2.1 (d2 (d16 (d16 a))).1 (d2 (d16 (d16 a))).2.1 (d4 (d16 (d16 a))).1 (d4 (d16 (d16 a))).2.1 (d2 (d4 (d16 (d16 a))))
 else
 (g24 f g h i j l m n o p q r s t u v w x y z A C D E G H J K L M N O P Q R T U V).bind fun W=>
 if (cop .eql (List.length b:Int) 0) then
 if (cop .eql (d4 (d8 (d16 W))).1 0) then
 (g8).bind fun ab=>
 some (ab)
 else
 some (false)
 else
 some (false)):=by kernel_rfl
noncomputable def Zlz (k:Nat) (a:LL) (c:Int) (d:LL) (e f g h:Int) (j:Bool) (m n:LL) (o p q r s t u v w x y z A C D E G H J K:Int) (L:LL) (M N O P Q R:Int) (T:Bool) (U:Int) (V W X:LL):Option (Bool):=F5.lp [3] 0 r0 k [.l a,.i c,.l d,.i e,.i f,.i g,.i h,.b j,.l m,.l n,.i o,.i p,.i q,.i r,.i s,.i t,.i u,.i v,.i w,.i x,.i y,.i z,.i A,.i C,.i D,.i E,.i G,.i H,.i J,.i K,.l L,.i M,.i N,.i O,.i P,.i Q,.i R,.b T,.i U,.l V,.l W,.l X]
theorem Zjo (k:Nat) (d:LL) (e:Int) (f:LL) (c g h i:Int) (j:Bool) (l m:LL) (n o p q r s t u v w x y z A C D E G H J:Int) (K:LL) (L M N O P Q:Int) (R:Bool) (T:Int) (U V W:LL):Zlz (k+1) d e f c g h i j l m n o p q r s t u v w x y z A C D E G H J K L M N O P Q R T U V W =
 (if (cop .lss c e) then
 Z8 d c [.int .i64] fun (X:Int)=>
 (g12 X 4).bind fun Y=>
 Z8 d c [.int .i64] fun (Z:Int)=>
 (g12 Z 16).bind fun aa=>
 J6 ((0:Int)≤12)<|
 (g22 Y (iop .add .i64 c 1) c (iop .shl .i64 aa 12)).bind fun b=>
 (g14 g h i j l m n o p q r s t u v w x y z A C D E G H J K L M N O P Q R T U V W b.1 b.2.1 b.2.2.1 b.2.2.2.1 b.2.2.2.2.1 b.2.2.2.2.2.1 b.2.2.2.2.2.2.1 b.2.2.2.2.2.2.2.1 b.2.2.2.2.2.2.2.2.1 b.2.2.2.2.2.2.2.2.2.1 b.2.2.2.2.2.2.2.2.2.2.1 b.2.2.2.2.2.2.2.2.2.2.2.1 (d4 (d8 b)).1 (d4 (d8 b)).2.1 (d2 (d4 (d8 b))).1 (d2 (d4 (d8 b))).2.1 (d16 b).1 (d16 b).2.1 (d2 (d16 b)).1 (d2 (d16 b)).2.1 (d4 (d16 b)).1 (d4 (d16 b)).2.1 (d2 (d4 (d16 b))).1 (d2 (d4 (d16 b))).2.1 (d8 (d16 b)).1 (d8 (d16 b)).2.1 (d2 (d8 (d16 b))).1 (d2 (d8 (d16 b))).2).bind fun a=>
 J6 (K7 f a.1 1056)<|
 Zlz k d e (f++a.1) (iop .add .i64 c 1) a.2.1 a.2.2.1 a.2.2.2.1 a.2.2.2.2.1 a.2.2.2.2.2.1 a.2.2.2.2.2.2.1 a.2.2.2.2.2.2.2.1 a.2.2.2.2.2.2.2.2.1 a.2.2.2.2.2.2.2.2.2.1 a.2.2.2.2.2.2.2.2.2.2.1 a.2.2.2.2.2.2.2.2.2.2.2.1 (d4 (d8 a)).1 (d4 (d8 a)).2.1 (d2 (d4 (d8 a))).1 (d2 (d4 (d8 a))).2.1 (d16 a).1 (d16 a).2.1 (d2 (d16 a)).1 (d2 (d16 a)).2.1 (d4 (d16 a)).1 (d4 (d16 a)).2.1 (d2 (d4 (d16 a))).1 (d2 (d4 (d16 a))).2.1 (d8 (d16 a)).1 (d8 (d16 a)).2.1 (d2 (d8 (d16 a))).1 (d2 (d8 (d16 a))).2.1 (d4 (d8 (d16 a))).1 (d4 (d8 (d16 a))).2.1 (d2 (d4 (d8 (d16 a)))).1 (d2 (d4 (d8 (d16 a)))).2.1 (d16 (d16 a)).1 (d16 (d16 a)).2.1 (d2 (d16 (d16 a))).1 (d2 (d16 (d16 a))).2.1 (d4 (d16 (d16 a))).1 (d4 (d16 (d16 a))).2.1 (d2 (d4 (d16 (d16 a))))
 else
 ZkR KX d e f 0 g h i j l m n o p q r s t u v w x y z A C D E G H J K L M N O P Q R T U V W):=by kernel_rfl
theorem Znt (b:LL):g5 b =
 ((g10).bind fun c=>
 (g9 0 c.1 c.2.1 c.2.2 E0).bind fun a=>
 Zlz KX b (iop .min .i64 (List.length b:Int) 30) E0 0 a.1 a.2.1 a.2.2.1 a.2.2.2.1 a.2.2.2.2.1 a.2.2.2.2.2.1 a.2.2.2.2.2.2.1 a.2.2.2.2.2.2.2.1 a.2.2.2.2.2.2.2.2.1 a.2.2.2.2.2.2.2.2.2.1 a.2.2.2.2.2.2.2.2.2.2.1 a.2.2.2.2.2.2.2.2.2.2.2.1 (d4 (d8 a)).1 (d4 (d8 a)).2.1 (d2 (d4 (d8 a))).1 (d2 (d4 (d8 a))).2.1 (d16 a).1 (d16 a).2.1 (d2 (d16 a)).1 (d2 (d16 a)).2.1 (d4 (d16 a)).1 (d4 (d16 a)).2.1 (d2 (d4 (d16 a))).1 (d2 (d4 (d16 a))).2.1 (d8 (d16 a)).1 (d8 (d16 a)).2.1 (d2 (d8 (d16 a))).1 (d2 (d8 (d16 a))).2.1 (d4 (d8 (d16 a))).1 (d4 (d8 (d16 a))).2.1 (d2 (d4 (d8 (d16 a)))).1 (d2 (d4 (d8 (d16 a)))).2.1 (d16 (d16 a)).1 (d16 (d16 a)).2.1 (d2 (d16 (d16 a))).1 (d2 (d16 (d16 a))).2.1 (d4 (d16 (d16 a))).1 (d4 (d16 (d16 a))).2):=by kernel_rfl
end Go.Proofs.YtlgmnddelljbmaaGreat
