/- Functions of the program, as what they compute. -/
import Derived.Test.YtapbmpfhogkkaaaGreatFMc
namespace Go.Proofs.YtapbmpfhogkkaaaGreat
open Go Go.AM
set_option linter.unusedVariables false
set_option maxRecDepth 100000
noncomputable def F10:Fn:=⟨123,[14,15,16],[(5,[(0,.c (.int .i64)),(1,.c (.int .i64)),(2,.c (.int .i64)),(3,.c (.slice 15)),(4,.c (.slice 3)),(5,.c (.slice 1)),(13,.box hs4),(14,.box hs0),(17,.c (.slice 1)),(58,.c (.slice 1)),(59,.c (.int .i64)),(60,.c (.int .i64))])],[],0,[],[],Tryz.f10,[.c (.int .i64),.c (.int .i64),.c (.int .i64),.c (.slice 15),.c (.slice 3),.c (.slice 1),.agg hs4],[.agg hs0,.c (.slice 1),.c (.int .i64)],[(23,F23.S),(24,F24.S),(25,F25.S),(26,F26.S),(30,F30.S),(27,F27.S),(28,F28.S),(29,F29.S)]⟩
theorem ZpH:F10.S.Ok Tryz.prog 10:=F10.ok Tryz.func10 (by kernel_rfl) ⟨ZqZ,⟨ZqG,⟨Zqg,⟨ZqU,⟨ZpA,⟨Zqs,⟨ZqC,⟨Zp5,trivial⟩⟩⟩⟩⟩⟩⟩⟩
noncomputable def g10 (a b c:Int) (d e f:LL) (h j k m n o p q r s t u:Int):Option (Qt1):=F10.S.g [.i a,.i b,.i c,.l d,.l e,.l f,.i h,.i j,.i k,.i m,.i n,.i o,.i p,.i q,.i r,.i s,.i t,.i u]
noncomputable def ZcP (k:Nat) (a c d:Int) (e f g:LL) (h j m n o p q r s t u v w x y z A C D E G H J K L M N O P Q R T:Int) (U:LL) (V W X Y Z aa:Int) (ab:Bool) (ac ad:LL) (ae af:Int):Option (Qt1):=F10.lp [1,1,1,1,0,1,0,1,2] 0 r0 k [.i a,.i c,.i d,.l e,.l f,.l g,.i h,.i j,.i m,.i n,.i o,.i p,.i q,.i r,.i s,.i t,.i u,.i v,.i w,.i x,.i y,.i z,.i A,.i C,.i D,.i E,.i G,.i H,.i J,.i K,.i L,.i M,.i N,.i O,.i P,.i Q,.i R,.i T,.l U,.i V,.i W,.i X,.i Y,.i Z,.i aa,.b ab,.l ac,.l ad,.i ae,.i af]
theorem Ze5 (k:Nat) (t u r:Int) (h s x:LL) (c d i j l m e n f o p q A C D E G H J K L M N O P Q R T U V W X:Int) (Y:LL) (Z aa ab ac ad ae:Int) (af:Bool) (v y:LL) (z w:Int):ZcP (k+1) t u r h s x c d i j l m e n f o p q A C D E G H J K L M N O P Q R T U V W X Y Z aa ab ac ad ae af v y z w =
 (if (cop .lss w z) then
 Zj y w [.int .i64] fun (g:Int)=>
 Zj h g hs2 fun (a:Qt12)=>
 (g25 a.1 a.2.1 a.2.2.1 a.2.2.2.1 a.2.2.2.2.1 a.2.2.2.2.2.1 a.2.2.2.2.2.2.1 a.2.2.2.2.2.2.2.1 a.2.2.2.2.2.2.2.2.1 a.2.2.2.2.2.2.2.2.2.1 a.2.2.2.2.2.2.2.2.2.2.1 a.2.2.2.2.2.2.2.2.2.2.2.1 (d4 (d8 a)).1 (d4 (d8 a)).2.1 (d2 (d4 (d8 a)))).bind fun b=>
 if b then
 some (0,0,0,0,0,0,0,0,0,0,0,0,0,0,0,0,0,0,0,0,E0,0,0,0,0,0,0,false,E0,4)
 else
 ZcP k t u r h s x c d i j l m e n f o p q A C D E G H J K L M N O P Q R T U V W X Y Z aa ab ac ad ae af v y z (iop .add .i64 w 1)
 else
 if (cop .eql c 1) then
 (g26 h s c d i j l m e n f o p q).bind fun g=>
 if (cop .neq g 0) then
 some (0,0,0,0,0,0,0,0,0,0,0,0,0,0,0,0,0,0,0,0,E0,0,0,0,0,0,0,false,E0,g)
 else
 (g30 s f e).bind fun a=>
 if (!a.2) then
 some (0,0,0,0,0,0,0,0,0,0,0,0,0,0,0,0,0,0,0,0,E0,0,0,0,0,0,0,false,E0,11)
 else
 some (t,u,0,c,d,i,j,l,m,e,n,f,o,p,q,a.1,r,0,0,0,E0,0,0,0,0,0,0,false,v,0)
 else
 (g27 r h x c d i j l m e n f o p q).bind fun g=>
 Zj h d hs2 fun (a:Qt12)=>
 (g28 a.1 a.2.1 a.2.2.1 a.2.2.2.1 a.2.2.2.2.1 a.2.2.2.2.2.1 a.2.2.2.2.2.2.1 a.2.2.2.2.2.2.2.1 a.2.2.2.2.2.2.2.2.1 a.2.2.2.2.2.2.2.2.2.1 a.2.2.2.2.2.2.2.2.2.2.1).bind fun b=>
 (g29 b.2.2.2.2.1 b.2.2.2.2.2.1 b.2.2.2.2.2.2.1 b.2.2.2.2.2.2.2.1 b.2.2.2.2.2.2.2.2.1 b.2.2.2.2.2.2.2.2.2.1 b.2.2.2.2.2.2.2.2.2.2).bind fun ag=>
 if (cop .neq g 0) then
 some (0,0,0,0,0,0,0,0,0,0,0,0,0,0,0,0,0,0,0,0,E0,0,0,0,0,0,0,false,E0,g)
 else
 (g30 s ag.1 ag.2).bind fun ah=>
 if (!ah.2) then
 some (0,0,0,0,0,0,0,0,0,0,0,0,0,0,0,0,0,0,0,0,E0,0,0,0,0,0,0,false,E0,11)
 else
 some (t,u,0,c,d,i,j,l,m,e,n,f,o,p,q,ah.1,r,b.1,b.2.1,b.2.2.1,b.2.2.2.1,b.2.2.2.2.1,b.2.2.2.2.2.1,b.2.2.2.2.2.2.1,b.2.2.2.2.2.2.2.1,b.2.2.2.2.2.2.2.2.1,b.2.2.2.2.2.2.2.2.2.1,b.2.2.2.2.2.2.2.2.2.2,v,0)):=by kernel_rfl
theorem Zno (a o p:Int) (q r s:LL) (b c d e f g h i j k l m:Int):g10 a o p q r s b c d e f g h i j k l m =
 (if (cop .lss a 0) then
 some (0,0,0,0,0,0,0,0,0,0,0,0,0,0,0,0,0,0,0,0,E0,0,0,0,0,0,0,false,E0,1)
 else
 if (cop .geq a 32) then
 some (0,0,0,0,0,0,0,0,0,0,0,0,0,0,0,0,0,0,0,0,E0,0,0,0,0,0,0,false,E0,1)
 else
 if (cop .lss o 1) then
 some (0,0,0,0,0,0,0,0,0,0,0,0,0,0,0,0,0,0,0,0,E0,0,0,0,0,0,0,false,E0,1)
 else
 if (cop .gtr o 1073741824) then
 some (0,0,0,0,0,0,0,0,0,0,0,0,0,0,0,0,0,0,0,0,E0,0,0,0,0,0,0,false,E0,1)
 else
 if (cop .neq p 32) then
 if (cop .neq p 39) then
 some (0,0,0,0,0,0,0,0,0,0,0,0,0,0,0,0,0,0,0,0,E0,0,0,0,0,0,0,false,E0,1)
 else
 (g23 a (List.length q:Int) b c d e f g h i j k l m).bind fun t=>
 if (!t) then
 some (0,0,0,0,0,0,0,0,0,0,0,0,0,0,0,0,0,0,0,0,E0,0,0,0,0,0,0,false,E0,1)
 else
 (g24 b c d e f g h i j k l m).bind fun n=>
 ZcP ZZ a o p q r s b c d e f g h i j k l m 0 0 0 0 0 0 0 0 0 0 0 0 0 0 0 0 0 0 0 0 E0 0 0 0 0 0 0 false n n (List.length n:Int) 0
 else
 (g23 a (List.length q:Int) b c d e f g h i j k l m).bind fun t=>
 if (!t) then
 some (0,0,0,0,0,0,0,0,0,0,0,0,0,0,0,0,0,0,0,0,E0,0,0,0,0,0,0,false,E0,1)
 else
 (g24 b c d e f g h i j k l m).bind fun n=>
 ZcP ZZ a o p q r s b c d e f g h i j k l m 0 0 0 0 0 0 0 0 0 0 0 0 0 0 0 0 0 0 0 0 E0 0 0 0 0 0 0 false n n (List.length n:Int) 0):=by kernel_rfl
end Go.Proofs.YtapbmpfhogkkaaaGreat
