/- Functions of the program, as what they compute. -/
import Derived.Test.YtmjkdbpffdampaaFAe
namespace Go.Proofs.Ytmjkdbpffdampaa
open Go Go.AM
set_option linter.unusedVariables false
set_option maxRecDepth 100000
noncomputable def F5:Fn:=⟨52,[0],[],[],0,[],[],Try.f5,[],[.c (.bool)],[(21,F21.S),(11,F11.S),(22,F22.S)]⟩
theorem ok5:F5.S.Ok Try.prog 5:=F5.ok Try.func5 (by kernel_rfl) ⟨Zos,⟨ZnV,⟨Zod,trivial⟩⟩⟩
noncomputable def g5:Option (Bool):=F5.S.g []
theorem ZnY:g5 =
 (Zj (ZkI 4 136)<|
 Zj ((4:Int)≤4)<|
 Zj ((4:Int)≤4)<|
 (g21).bind fun c=>
 (g11 1 5 32 (List.replicate (Int.toNat 4) [AV.val (.int .i64 0),AV.val (.int .i64 0),AV.val (.int .i64 0),AV.slice false 3 E0,AV.val (.int .i64 0),AV.val (.int .i64 0),AV.val (.int .i64 0),AV.val (.int .i64 0),AV.val (.int .i64 0),AV.val (.int .i64 0),AV.val (.bool false),AV.val (.int .i64 0),AV.val (.int .i64 0),AV.val (.int .i64 0),AV.val (.int .i64 0)]) c ((E0++[[AV.val (.int .i64 0)]])++[[AV.val (.int .i64 1)]]) 1 0 2 0 0 0 14 0 262144 0 0 0).bind fun a=>
 (g21).bind fun d=>
 (g22 d 262144 12).bind fun b=>
 if (cop .eql (d4 (d8 (d16 a))).2 0) then
 if (cop .eql (List.length (d4 (d8 (d16 a))).1:Int) 1) then
 Zq (d4 (d8 (d16 a))).1 0 [.int .i64] fun (e:Int)=>
 if (cop .eql e 2) then
 if ((cop .eql a.1 1)&&((cop .eql a.2.1 5)&&((cop .eql a.2.2.1 0)&&true))) then
 if (cop .eql (d16 a).1 32) then
 if b.2 then
 some ((cop .eql b.1 0))
 else
 some (false)
 else
 some (false)
 else
 some (false)
 else
 some (false)
 else
 some (false)
 else
 some (false)):=by kernel_rfl
noncomputable def F3:Fn:=⟨179,[10],[(14,[(11,.c (.int .i64)),(12,.box hs15),(14,.box hs5),(15,.c (.int .i64)),(16,.c (.slice 3)),(17,.box hs0),(18,.c (.slice 1)),(20,.c (.int .i64))])],[],0,[],[],Try.f3,[.c (.slice 1),.c (.slice 10),.c (.int .i64),.c (.int .i64),.agg hs8],[.c (.bool)],[(5,F5.S),(6,F6.S),(8,F8.S),(7,F7.S),(9,F9.S),(10,F10.S),(12,F12.S),(11,F11.S),(13,F13.S),(14,F14.S),(15,F15.S),(16,F16.S),(17,F17.S),(18,F18.S),(19,F19.S)]⟩
theorem ok3:F3.S.Ok Try.prog 3:=F3.ok Try.func3 (by kernel_rfl) ⟨ok5,⟨ok6,⟨ok8,⟨ok7,⟨ok9,⟨Zpd,⟨ZoO,⟨ZnV,⟨Zo9,⟨Zpi,⟨Zoe,⟨Zpc,⟨Zob,⟨Zps,⟨ZoZ,trivial⟩⟩⟩⟩⟩⟩⟩⟩⟩⟩⟩⟩⟩⟩⟩
noncomputable def g3 (a b:LL) (c d e f h j k m n o p:Int):Option (Bool):=F3.S.g [.l a,.l b,.i c,.i d,.i e,.i f,.i h,.i j,.i k,.i m,.i n,.i o,.i p]
noncomputable def Zlo (k:Nat) (a:Int) (c d e f g h:LL) (j m n o p q r s t u v w x:Int) (y:LL) (z A C D E G H J K L M N O P Q R T U V W:Int) (X:LL) (Y Z aa ab ac ad:Int) (ae:Bool) (af:LL) (ag:Int):Option (Bool):=F3.lp [1,8,1,0] 0 r0 k [.i a,.l c,.l d,.l e,.l f,.l g,.l h,.i j,.i m,.i n,.i o,.i p,.i q,.i r,.i s,.i t,.i u,.i v,.i w,.i x,.l y,.i z,.i A,.i C,.i D,.i E,.i G,.i H,.i J,.i K,.i L,.i M,.i N,.i O,.i P,.i Q,.i R,.i T,.i U,.i V,.i W,.l X,.i Y,.i Z,.i aa,.i ab,.i ac,.i ad,.b ae,.l af,.i ag]
theorem ZhF (k:Nat) (Q:Int) (H x2 x3 x4 x5 x6:LL) (J f R T U V K W L X Y Z aa:Int) (ab:LL) (g h i j l m n o p q r s t u v w x M N O:Int) (P:LL) (y z A C D E:Int) (G:Bool) (d:LL) (e:Int):Zlo (k+1) Q H x2 x3 x4 x5 x6 J f R T U V K W L X Y Z aa ab g h i j l m n o p q r s t u v w x M N O P y z A C D E G d e =
 (if (cop .lss e (List.length d:Int)) then
 Zq d e [.int .i64] fun (b:Int)=>
 if (cop .lss b 0) then
 some (false)
 else
 Zq d e [.int .i64] fun (ai:Int)=>
 if (cop .geq ai 12) then
 some (false)
 else
 if (cop .gtr e 0) then
 Zq d e [.int .i64] fun (ac:Int)=>
 Zq d (iop .sub .i64 e 1) [.int .i64] fun (a:Int)=>
 if (cop .leq ac a) then
 some (false)
 else
 Zq d e [.int .i64] fun (al:Int)=>
 Zq H al hs3 fun (c:Qt9)=>
 (g14 c.1 c.2.1 c.2.2.1 c.2.2.2.1 c.2.2.2.2.1 c.2.2.2.2.2.1 c.2.2.2.2.2.2.1 c.2.2.2.2.2.2.2.1 c.2.2.2.2.2.2.2.2.1 c.2.2.2.2.2.2.2.2.2.1 c.2.2.2.2.2.2.2.2.2.2.1 c.2.2.2.2.2.2.2.2.2.2.2.1 (d4 (d8 c)).1 (d4 (d8 c)).2.1 (d2 (d4 (d8 c)))).bind fun aj=>
 if aj then
 some (false)
 else
 Zlo k Q H x2 x3 x4 x5 x6 J f R T U V K W L X Y Z aa ab g h i j l m n o p q r s t u v w x M N O P y z A C D E G d (iop .add .i64 e 1)
 else
 Zq d e [.int .i64] fun (ac:Int)=>
 Zq H ac hs3 fun (a:Qt9)=>
 (g14 a.1 a.2.1 a.2.2.1 a.2.2.2.1 a.2.2.2.2.1 a.2.2.2.2.2.1 a.2.2.2.2.2.2.1 a.2.2.2.2.2.2.2.1 a.2.2.2.2.2.2.2.2.1 a.2.2.2.2.2.2.2.2.2.1 a.2.2.2.2.2.2.2.2.2.2.1 a.2.2.2.2.2.2.2.2.2.2.2.1 (d4 (d8 a)).1 (d4 (d8 a)).2.1 (d2 (d4 (d8 a)))).bind fun am=>
 if am then
 some (false)
 else
 Zlo k Q H x2 x3 x4 x5 x6 J f R T U V K W L X Y Z aa ab g h i j l m n o p q r s t u v w x M N O P y z A C D E G d (iop .add .i64 e 1)
 else
 if (cop .neq J 1) then
 Zq H f hs3 fun (b:Qt9)=>
 (g15 M N O P y z A C D E G b.1 b.2.1 b.2.2.1 b.2.2.2.1 b.2.2.2.2.1 b.2.2.2.2.2.1 b.2.2.2.2.2.2.1 b.2.2.2.2.2.2.2.1 b.2.2.2.2.2.2.2.2.1 b.2.2.2.2.2.2.2.2.2.1 b.2.2.2.2.2.2.2.2.2.2.1).bind fun an=>
 if (!an) then
 some (false)
 else
 (g16 d f).bind fun ao=>
 if (!ao) then
 some (false)
 else
 (g17 y z A C D E G).bind fun ak=>
 (g18 g h i j l m n o p q r s t u v w x M N O P y z A C D E G).bind fun ap=>
 if ap then
 if ((cop .eql g Q)&&((cop .eql h aa)&&((cop .eql i 0)&&true))) then
 if ((cop .eql j J)&&((cop .eql l f)&&((cop .eql m R)&&((cop .eql n T)&&((cop .eql o U)&&((cop .eql p V)&&((cop .eql q K)&&((cop .eql r W)&&((cop .eql s L)&&((cop .eql t X)&&((cop .eql u Y)&&((cop .eql v Z)&&true)))))))))))) then
 if (cop .eql x 39) then
 (g19 ab ak.1 ak.2).bind fun aj=>
 if (cop .eql w aj) then
 (g5).bind fun aq=>
 some (aq)
 else
 some (false)
 else
 some (false)
 else
 some (false)
 else
 some (false)
 else
 some (false)
 else
 (g18 g h i j l m n o p q r s t u v w x M N O P y z A C D E G).bind fun b=>
 if b then
 if ((cop .eql g Q)&&((cop .eql h aa)&&((cop .eql i 0)&&true))) then
 if ((cop .eql j J)&&((cop .eql l f)&&((cop .eql m R)&&((cop .eql n T)&&((cop .eql o U)&&((cop .eql p V)&&((cop .eql q K)&&((cop .eql r W)&&((cop .eql s L)&&((cop .eql t X)&&((cop .eql u Y)&&((cop .eql v Z)&&true)))))))))))) then
 if (cop .eql x 39) then
 (g19 ab L K).bind fun ai=>
 if (cop .eql w ai) then
 (g5).bind fun ac=>
 some (ac)
 else
 some (false)
 else
 some (false)
 else
 some (false)
 else
 some (false)
 else
 some (false)):=by kernel_rfl
theorem Zoh (f g:LL) (h i j k l m n o p q r:Int):g3 f g h i j k l m n o p q r =
 (if (cop .gtr (List.length f:Int) 60) then
 (g5).bind fun d=>
 some (d)
 else
 (g6 h 4).bind fun d=>
 (g8 g).bind fun t=>
 (g7 f t d).bind fun c=>
 (g9 E0).bind fun e=>
 (g10 e.1 e.2.1 12 e.2.2.2.1 e.2.2.2.2 d j k l m n o p q r).bind fun b=>
 (g6 i 1000).bind fun s=>
 (g12 c.1).bind fun u=>
 (g11 d (iop .add .i64 1 s) 39 u (((E0++[[AV.val (.int .i64 0),AV.val (.int .i64 15),AV.val (.bool false)]])++[[AV.val (.int .i64 32768),AV.val (.int .i64 15),AV.val (.bool false)]])++[[AV.val (.int .i64 262144),AV.val (.int .i64 17),AV.val (.bool false)]]) ((((E0++[[AV.val (.int .i64 0)]])++[[AV.val (.int .i64 1)]])++[[AV.val (.int .i64 2)]])++[[AV.val (.int .i64 3)]]) b.1 b.2.1 b.2.2.1 b.2.2.2.1 b.2.2.2.2.1 b.2.2.2.2.2.1 b.2.2.2.2.2.2.1 b.2.2.2.2.2.2.2.1 b.2.2.2.2.2.2.2.2.1 b.2.2.2.2.2.2.2.2.2.1 b.2.2.2.2.2.2.2.2.2.2.1 b.2.2.2.2.2.2.2.2.2.2.2).bind fun a=>
 if (cop .neq (d4 (d8 (d16 a))).2 0) then
 if (cop .eql (List.length (d4 (d8 (d16 a))).1:Int) 0) then
 (g13 a.1 a.2.1 a.2.2.1 a.2.2.2.1 a.2.2.2.2.1 a.2.2.2.2.2.1 a.2.2.2.2.2.2.1 a.2.2.2.2.2.2.2.1 a.2.2.2.2.2.2.2.2.1 a.2.2.2.2.2.2.2.2.2.1 a.2.2.2.2.2.2.2.2.2.2.1 a.2.2.2.2.2.2.2.2.2.2.2.1 (d4 (d8 a)).1 (d4 (d8 a)).2.1 (d2 (d4 (d8 a))).1 (d2 (d4 (d8 a))).2.1 (d16 a).1 (d16 a).2.1 (d2 (d16 a)).1 (d2 (d16 a)).2.1 (d4 (d16 a)).1 (d4 (d16 a)).2.1 (d2 (d4 (d16 a))).1 (d2 (d4 (d16 a))).2.1 (d8 (d16 a)).1 (d8 (d16 a)).2.1 (d2 (d8 (d16 a))).1 (d2 (d8 (d16 a))).2.1 0 0 0 0 0 0 0 0 0 0 0 0 0 0 0 0 0 0 0 0 E0 0 0 0 0 0 0 false).bind fun v=>
 if v then
 (g5).bind fun w=>
 some (w)
 else
 some (false)
 else
 some (false)
 else
 Zlo Z6 d c.1 c.2.1 c.2.2.1 c.2.2.2.1 c.2.2.2.2.1 c.2.2.2.2.2 b.1 b.2.1 b.2.2.1 b.2.2.2.1 b.2.2.2.2.1 b.2.2.2.2.2.1 b.2.2.2.2.2.2.1 b.2.2.2.2.2.2.2.1 b.2.2.2.2.2.2.2.2.1 b.2.2.2.2.2.2.2.2.2.1 b.2.2.2.2.2.2.2.2.2.2.1 b.2.2.2.2.2.2.2.2.2.2.2 (iop .add .i64 1 s) (((E0++[[AV.val (.int .i64 0),AV.val (.int .i64 15),AV.val (.bool false)]])++[[AV.val (.int .i64 32768),AV.val (.int .i64 15),AV.val (.bool false)]])++[[AV.val (.int .i64 262144),AV.val (.int .i64 17),AV.val (.bool false)]]) a.1 a.2.1 a.2.2.1 a.2.2.2.1 a.2.2.2.2.1 a.2.2.2.2.2.1 a.2.2.2.2.2.2.1 a.2.2.2.2.2.2.2.1 a.2.2.2.2.2.2.2.2.1 a.2.2.2.2.2.2.2.2.2.1 a.2.2.2.2.2.2.2.2.2.2.1 a.2.2.2.2.2.2.2.2.2.2.2.1 (d4 (d8 a)).1 (d4 (d8 a)).2.1 (d2 (d4 (d8 a))).1 (d2 (d4 (d8 a))).2.1 (d16 a).1 (d16 a).2.1 (d2 (d16 a)).1 (d2 (d16 a)).2.1 (d4 (d16 a)).1 (d4 (d16 a)).2.1 (d2 (d4 (d16 a))).1 (d2 (d4 (d16 a))).2.1 (d8 (d16 a)).1 (d8 (d16 a)).2.1 (d2 (d8 (d16 a))).1 (d2 (d8 (d16 a))).2.1 (d4 (d8 (d16 a))).1 0):=by kernel_rfl
noncomputable def F4:Fn:=⟨130,[12],[],[],0,[],[(6,[(14,0)]),(16,[(22,0)]),(21,[(26,0)])],Try.f4,[.c (.slice 10),.c (.int .i64),.c (.int .i64),.c (.int .i64),.c (.int .i64),.c (.bool)],[.c (.bool)],[(6,F6.S),(8,F8.S),(20,F20.S),(12,F12.S),(21,F21.S),(11,F11.S),(5,F5.S)]⟩
theorem ok4:F4.S.Ok Try.prog 4:=F4.ok Try.func4 (by kernel_rfl) ⟨ok6,⟨ok8,⟨ZoM,⟨ZoO,⟨Zos,⟨ZnV,⟨ok5,trivial⟩⟩⟩⟩⟩⟩⟩
noncomputable def g4 (a:LL) (c d e f:Int) (h:Bool):Option (Bool):=F4.S.g [.l a,.i c,.i d,.i e,.i f,.b h]
theorem ZnU (p:LL) (q r s t:Int) (o:Bool):g4 p q r s t o =
 ((g6 q 4).bind fun c=>
 (g8 p).bind fun u=>
 (g20 u c).bind fun l=>
 (g6 r 12).bind fun a=>
 (g6 s 12).bind fun b=>
 (g6 t 6).bind fun h=>
 Zj ((4:Int)≠0)<|
 (g12 l).bind fun v=>
 (g21).bind fun w=>
 (g11 c 9 32 v w ((((E0++[[AV.val (.int .i64 0)]])++[[AV.val (.int .i64 1)]])++[[AV.val (.int .i64 2)]])++[[AV.val (.int .i64 3)]]) (iop .add .i64 1 h) a b (iop .rem .i64 (iop .add .i64 c 1) 4) 0 2 12 0 262144 1 0 0).bind fun j=>
 if (cop .eql (d4 (d8 (d16 j))).2 4) then
 some (false)
 else
 if (cop .eql (iop .add .i64 1 h) 1) then
 (g12 l).bind fun k=>
 if o then
 Zj ((0:Int)≤b)<|
 Zj ((b:Int) < (List.length k:Int))<|
 Zj ((0:Int)≤b)<|
 Zj ((b:Int) < (List.length k:Int))<|
 (g12 (Zy k (Int.toNat b) 12 [AV.val (.int .i64 0),AV.val (.int .i64 3),AV.val (.int .i64 0)])).bind fun m=>
 (g21).bind fun n=>
 (g11 c 9 32 m n ((((E0++[[AV.val (.int .i64 0)]])++[[AV.val (.int .i64 1)]])++[[AV.val (.int .i64 2)]])++[[AV.val (.int .i64 3)]]) (iop .add .i64 1 h) a b (iop .rem .i64 (iop .add .i64 c 1) 4) 0 2 12 0 262144 1 0 0).bind fun i=>
 (g12 l).bind fun d=>
 Zj ((12:Int)≠0)<|
 if (cop .neq (iop .rem .i64 (iop .add .i64 (iop .max .i64 a b) 1) 12) a) then
 if (cop .neq (iop .rem .i64 (iop .add .i64 (iop .max .i64 a b) 1) 12) b) then
 Zj ((0:Int)≤(iop .rem .i64 (iop .add .i64 (iop .max .i64 a b) 1) 12))<|
 Zj (((iop .rem .i64 (iop .add .i64 (iop .max .i64 a b) 1) 12):Int) < (List.length d:Int))<|
 Zj ((0:Int)≤(iop .rem .i64 (iop .add .i64 (iop .max .i64 a b) 1) 12))<|
 Zj (((iop .rem .i64 (iop .add .i64 (iop .max .i64 a b) 1) 12):Int) < (List.length d:Int))<|
 (g21).bind fun e=>
 (g11 c 9 32 (Zy d (Int.toNat (iop .rem .i64 (iop .add .i64 (iop .max .i64 a b) 1) 12)) 11 [AV.val (.int .i64 3)]) e ((((E0++[[AV.val (.int .i64 0)]])++[[AV.val (.int .i64 1)]])++[[AV.val (.int .i64 2)]])++[[AV.val (.int .i64 3)]]) (iop .add .i64 1 h) a b (iop .rem .i64 (iop .add .i64 c 1) 4) 0 2 12 0 262144 1 0 0).bind fun f=>
 if (cop .eql (d4 (d8 (d16 i))).2 4) then
 if (cop .eql (d4 (d8 (d16 f))).2 (d4 (d8 (d16 j))).2) then
 (g5).bind fun g=>
 some (g)
 else
 some (false)
 else
 some (false)
 else
 (g21).bind fun e=>
 (g11 c 9 32 d e ((((E0++[[AV.val (.int .i64 0)]])++[[AV.val (.int .i64 1)]])++[[AV.val (.int .i64 2)]])++[[AV.val (.int .i64 3)]]) (iop .add .i64 1 h) a b (iop .rem .i64 (iop .add .i64 c 1) 4) 0 2 12 0 262144 1 0 0).bind fun f=>
 if (cop .eql (d4 (d8 (d16 i))).2 4) then
 if (cop .eql (d4 (d8 (d16 f))).2 (d4 (d8 (d16 j))).2) then
 (g5).bind fun g=>
 some (g)
 else
 some (false)
 else
 some (false)
 else
 (g21).bind fun e=>
 (g11 c 9 32 d e ((((E0++[[AV.val (.int .i64 0)]])++[[AV.val (.int .i64 1)]])++[[AV.val (.int .i64 2)]])++[[AV.val (.int .i64 3)]]) (iop .add .i64 1 h) a b (iop .rem .i64 (iop .add .i64 c 1) 4) 0 2 12 0 262144 1 0 0).bind fun f=>
 if (cop .eql (d4 (d8 (d16 i))).2 4) then
 if (cop .eql (d4 (d8 (d16 f))).2 (d4 (d8 (d16 j))).2) then
 (g5).bind fun g=>
 some (g)
 else
 some (false)
 else
 some (false)
 else
 Zj ((0:Int)≤b)<|
 Zj ((b:Int) < (List.length k:Int))<|
 Zj ((0:Int)≤b)<|
 Zj ((b:Int) < (List.length k:Int))<|
 (g12 (Zy k (Int.toNat b) 11 [AV.val (.int .i64 3)])).bind fun m=>
 (g21).bind fun n=>
 (g11 c 9 32 m n ((((E0++[[AV.val (.int .i64 0)]])++[[AV.val (.int .i64 1)]])++[[AV.val (.int .i64 2)]])++[[AV.val (.int .i64 3)]]) (iop .add .i64 1 h) a b (iop .rem .i64 (iop .add .i64 c 1) 4) 0 2 12 0 262144 1 0 0).bind fun i=>
 (g12 l).bind fun d=>
 Zj ((12:Int)≠0)<|
 if (cop .neq (iop .rem .i64 (iop .add .i64 (iop .max .i64 a b) 1) 12) a) then
 if (cop .neq (iop .rem .i64 (iop .add .i64 (iop .max .i64 a b) 1) 12) b) then
 Zj ((0:Int)≤(iop .rem .i64 (iop .add .i64 (iop .max .i64 a b) 1) 12))<|
 Zj (((iop .rem .i64 (iop .add .i64 (iop .max .i64 a b) 1) 12):Int) < (List.length d:Int))<|
 Zj ((0:Int)≤(iop .rem .i64 (iop .add .i64 (iop .max .i64 a b) 1) 12))<|
 Zj (((iop .rem .i64 (iop .add .i64 (iop .max .i64 a b) 1) 12):Int) < (List.length d:Int))<|
 (g21).bind fun e=>
 (g11 c 9 32 (Zy d (Int.toNat (iop .rem .i64 (iop .add .i64 (iop .max .i64 a b) 1) 12)) 11 [AV.val (.int .i64 3)]) e ((((E0++[[AV.val (.int .i64 0)]])++[[AV.val (.int .i64 1)]])++[[AV.val (.int .i64 2)]])++[[AV.val (.int .i64 3)]]) (iop .add .i64 1 h) a b (iop .rem .i64 (iop .add .i64 c 1) 4) 0 2 12 0 262144 1 0 0).bind fun f=>
 if (cop .eql (d4 (d8 (d16 i))).2 4) then
 if (cop .eql (d4 (d8 (d16 f))).2 (d4 (d8 (d16 j))).2) then
 (g5).bind fun g=>
 some (g)
 else
 some (false)
 else
 some (false)
 else
 (g21).bind fun e=>
 (g11 c 9 32 d e ((((E0++[[AV.val (.int .i64 0)]])++[[AV.val (.int .i64 1)]])++[[AV.val (.int .i64 2)]])++[[AV.val (.int .i64 3)]]) (iop .add .i64 1 h) a b (iop .rem .i64 (iop .add .i64 c 1) 4) 0 2 12 0 262144 1 0 0).bind fun f=>
 if (cop .eql (d4 (d8 (d16 i))).2 4) then
 if (cop .eql (d4 (d8 (d16 f))).2 (d4 (d8 (d16 j))).2) then
 (g5).bind fun g=>
 some (g)
 else
 some (false)
 else
 some (false)
 else
 (g21).bind fun e=>
 (g11 c 9 32 d e ((((E0++[[AV.val (.int .i64 0)]])++[[AV.val (.int .i64 1)]])++[[AV.val (.int .i64 2)]])++[[AV.val (.int .i64 3)]]) (iop .add .i64 1 h) a b (iop .rem .i64 (iop .add .i64 c 1) 4) 0 2 12 0 262144 1 0 0).bind fun f=>
 if (cop .eql (d4 (d8 (d16 i))).2 4) then
 if (cop .eql (d4 (d8 (d16 f))).2 (d4 (d8 (d16 j))).2) then
 (g5).bind fun g=>
 some (g)
 else
 some (false)
 else
 some (false)
 else
 (g12 l).bind fun k=>
 if o then
 Zj ((0:Int)≤a)<|
 Zj ((a:Int) < (List.length k:Int))<|
 Zj ((0:Int)≤a)<|
 Zj ((a:Int) < (List.length k:Int))<|
 (g12 (Zy k (Int.toNat a) 12 [AV.val (.int .i64 0),AV.val (.int .i64 3),AV.val (.int .i64 0)])).bind fun m=>
 (g21).bind fun n=>
 (g11 c 9 32 m n ((((E0++[[AV.val (.int .i64 0)]])++[[AV.val (.int .i64 1)]])++[[AV.val (.int .i64 2)]])++[[AV.val (.int .i64 3)]]) (iop .add .i64 1 h) a b (iop .rem .i64 (iop .add .i64 c 1) 4) 0 2 12 0 262144 1 0 0).bind fun i=>
 (g12 l).bind fun d=>
 Zj ((12:Int)≠0)<|
 if (cop .neq (iop .rem .i64 (iop .add .i64 (iop .max .i64 a b) 1) 12) a) then
 if (cop .neq (iop .rem .i64 (iop .add .i64 (iop .max .i64 a b) 1) 12) b) then
 Zj ((0:Int)≤(iop .rem .i64 (iop .add .i64 (iop .max .i64 a b) 1) 12))<|
 Zj (((iop .rem .i64 (iop .add .i64 (iop .max .i64 a b) 1) 12):Int) < (List.length d:Int))<|
 Zj ((0:Int)≤(iop .rem .i64 (iop .add .i64 (iop .max .i64 a b) 1) 12))<|
 Zj (((iop .rem .i64 (iop .add .i64 (iop .max .i64 a b) 1) 12):Int) < (List.length d:Int))<|
 (g21).bind fun e=>
 (g11 c 9 32 (Zy d (Int.toNat (iop .rem .i64 (iop .add .i64 (iop .max .i64 a b) 1) 12)) 11 [AV.val (.int .i64 3)]) e ((((E0++[[AV.val (.int .i64 0)]])++[[AV.val (.int .i64 1)]])++[[AV.val (.int .i64 2)]])++[[AV.val (.int .i64 3)]]) (iop .add .i64 1 h) a b (iop .rem .i64 (iop .add .i64 c 1) 4) 0 2 12 0 262144 1 0 0).bind fun f=>
 if (cop .eql (d4 (d8 (d16 i))).2 4) then
 if (cop .eql (d4 (d8 (d16 f))).2 (d4 (d8 (d16 j))).2) then
 (g5).bind fun g=>
 some (g)
 else
 some (false)
 else
 some (false)
 else
 (g21).bind fun e=>
 (g11 c 9 32 d e ((((E0++[[AV.val (.int .i64 0)]])++[[AV.val (.int .i64 1)]])++[[AV.val (.int .i64 2)]])++[[AV.val (.int .i64 3)]]) (iop .add .i64 1 h) a b (iop .rem .i64 (iop .add .i64 c 1) 4) 0 2 12 0 262144 1 0 0).bind fun f=>
 if (cop .eql (d4 (d8 (d16 i))).2 4) then
 if (cop .eql (d4 (d8 (d16 f))).2 (d4 (d8 (d16 j))).2) then
 (g5).bind fun g=>
 some (g)
 else
 some (false)
 else
 some (false)
 else
 (g21).bind fun e=>
 (g11 c 9 32 d e ((((E0++[[AV.val (.int .i64 0)]])++[[AV.val (.int .i64 1)]])++[[AV.val (.int .i64 2)]])++[[AV.val (.int .i64 3)]]) (iop .add .i64 1 h) a b (iop .rem .i64 (iop .add .i64 c 1) 4) 0 2 12 0 262144 1 0 0).bind fun f=>
 if (cop .eql (d4 (d8 (d16 i))).2 4) then
 if (cop .eql (d4 (d8 (d16 f))).2 (d4 (d8 (d16 j))).2) then
 (g5).bind fun g=>
 some (g)
 else
 some (false)
 else
 some (false)
 else
 Zj ((0:Int)≤a)<|
 Zj ((a:Int) < (List.length k:Int))<|
 Zj ((0:Int)≤a)<|
 Zj ((a:Int) < (List.length k:Int))<|
 (g12 (Zy k (Int.toNat a) 11 [AV.val (.int .i64 3)])).bind fun m=>
 (g21).bind fun n=>
 (g11 c 9 32 m n ((((E0++[[AV.val (.int .i64 0)]])++[[AV.val (.int .i64 1)]])++[[AV.val (.int .i64 2)]])++[[AV.val (.int .i64 3)]]) (iop .add .i64 1 h) a b (iop .rem .i64 (iop .add .i64 c 1) 4) 0 2 12 0 262144 1 0 0).bind fun i=>
 (g12 l).bind fun d=>
 Zj ((12:Int)≠0)<|
 if (cop .neq (iop .rem .i64 (iop .add .i64 (iop .max .i64 a b) 1) 12) a) then
 if (cop .neq (iop .rem .i64 (iop .add .i64 (iop .max .i64 a b) 1) 12) b) then
 Zj ((0:Int)≤(iop .rem .i64 (iop .add .i64 (iop .max .i64 a b) 1) 12))<|
 Zj (((iop .rem .i64 (iop .add .i64 (iop .max .i64 a b) 1) 12):Int) < (List.length d:Int))<|
 Zj ((0:Int)≤(iop .rem .i64 (iop .add .i64 (iop .max .i64 a b) 1) 12))<|
 Zj (((iop .rem .i64 (iop .add .i64 (iop .max .i64 a b) 1) 12):Int) < (List.length d:Int))<|
 (g21).bind fun e=>
 (g11 c 9 32 (Zy d (Int.toNat (iop .rem .i64 (iop .add .i64 (iop .max .i64 a b) 1) 12)) 11 [AV.val (.int .i64 3)]) e ((((E0++[[AV.val (.int .i64 0)]])++[[AV.val (.int .i64 1)]])++[[AV.val (.int .i64 2)]])++[[AV.val (.int .i64 3)]]) (iop .add .i64 1 h) a b (iop .rem .i64 (iop .add .i64 c 1) 4) 0 2 12 0 262144 1 0 0).bind fun f=>
 if (cop .eql (d4 (d8 (d16 i))).2 4) then
 if (cop .eql (d4 (d8 (d16 f))).2 (d4 (d8 (d16 j))).2) then
 (g5).bind fun g=>
 some (g)
 else
 some (false)
 else
 some (false)
 else
 (g21).bind fun e=>
 (g11 c 9 32 d e ((((E0++[[AV.val (.int .i64 0)]])++[[AV.val (.int .i64 1)]])++[[AV.val (.int .i64 2)]])++[[AV.val (.int .i64 3)]]) (iop .add .i64 1 h) a b (iop .rem .i64 (iop .add .i64 c 1) 4) 0 2 12 0 262144 1 0 0).bind fun f=>
 if (cop .eql (d4 (d8 (d16 i))).2 4) then
 if (cop .eql (d4 (d8 (d16 f))).2 (d4 (d8 (d16 j))).2) then
 (g5).bind fun g=>
 some (g)
 else
 some (false)
 else
 some (false)
 else
 (g21).bind fun e=>
 (g11 c 9 32 d e ((((E0++[[AV.val (.int .i64 0)]])++[[AV.val (.int .i64 1)]])++[[AV.val (.int .i64 2)]])++[[AV.val (.int .i64 3)]]) (iop .add .i64 1 h) a b (iop .rem .i64 (iop .add .i64 c 1) 4) 0 2 12 0 262144 1 0 0).bind fun f=>
 if (cop .eql (d4 (d8 (d16 i))).2 4) then
 if (cop .eql (d4 (d8 (d16 f))).2 (d4 (d8 (d16 j))).2) then
 (g5).bind fun g=>
 some (g)
 else
 some (false)
 else
 some (false)):=by kernel_rfl
end Go.Proofs.Ytmjkdbpffdampaa
