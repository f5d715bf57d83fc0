import Derived.Test.YtnkmbgbpkgmbnaaGreatFQm
open Option renaming some→Xa
open Bool renaming false→Xb
open List renaming length→Xg
set_option linter.unusedVariables false
set_option linter.unusedSimpArgs false
set_option linter.defProp false
namespace Go.Proofs.YtnkmbgbpkgmbnaaGreat
open Go Go.AM
set_option maxRecDepth 100000
noncomputable def F3:Fn:=⟨194,[2],[(7,[(0,.c (.slice 10)),(3,.box [.slice 1,.int .i64,.int .i64,.slice 3,.slice 1]),(4,.ptr 30 0),(5,.ptr 35 0),(6,.c (.int .i64)),(30,.box hs25),(35,.box hs5)]),(14,[(0,.c (.slice 10)),(3,.box [.slice 1,.int .i64,.int .i64,.slice 3,.slice 1]),(4,.ptr 30 0),(5,.ptr 35 0),(6,.c (.int .i64)),(7,.c (.int .i64)),(8,.box hs22),(9,.c (.own true 54)),(10,.c (.slice 13)),(11,.c (.int .i64)),(30,.box hs25),(35,.box hs5)])],[],0,[],[(18,[(9,0)])],Tryz.f3,[.c (.slice 10)],[.c (.bool)],[(4,F4.S),(5,F5.S),(6,F6.S),(7,F7.S),(8,F8.S),(10,F10.S),(9,F9.S),(11,F11.S),(13,F13.S),(12,F12.S),(15,F15.S),(14,F14.S),(16,F16.S),(17,F17.S),(18,F18.S)]⟩
def ok3:F3.S.Ok Tryz.prog 3:=F3.ok Tryz.func3 ⟨ok4,⟨ok5,⟨ok6,⟨ok7,⟨ok8,⟨ZBe,⟨ok9,⟨ZBk,⟨ZAD,⟨ZA3,⟨Zz0,⟨ZBs,⟨ZyR,⟨ZAT,⟨ZA1,trivial⟩⟩⟩⟩⟩⟩⟩⟩⟩⟩⟩⟩⟩⟩⟩
noncomputable def g3 (a:LL):Option (Bool):=F3.S.g [.l a]
noncomputable def Zs5 (S:List V→Option (Bool)) (k:Nat) (a c:LL) (d e:Int) (f g:LL) (h j m n o p q r s t u v w x:Int) (y z:LL) (A:Int) (C:LL) (D E:Int) (G H J K L M N:LL) (O P Q:Int) (R:Bool) (T U:LL) (W X Y Z aa ab ac ad ae af ag ah ai aj ak al am an ao ap:Int) (aq:LL) (ar au av aw ax ay:Int) (az:Bool) (a0:Int) (a1 a2 a3:LL):Option (Bool):=F3.lp [5,0,9] 1 (ZlY r0 0 S) k [.l a,.l c,.i d,.i e,.l f,.l g,.i h,.i j,.i m,.i n,.i o,.i p,.i q,.i r,.i s,.i t,.i u,.i v,.i w,.i x,.l y,.l z,.i A,.l C,.i D,.i E,.l G,.l H,.l J,.l K,.l L,.l M,.l N,.i O,.i P,.i Q,.b R,.l T,.l U,.i W,.i X,.i Y,.i Z,.i aa,.i ab,.i ac,.i ad,.i ae,.i af,.i ag,.i ah,.i ai,.i aj,.i ak,.i al,.i am,.i an,.i ao,.i ap,.l aq,.i ar,.i au,.i av,.i aw,.i ax,.i ay,.b az,.i a0,.l a1,.l a2,.l a3]
def Zrz (S:List V→Option (Bool)) (k:Nat) (s q:LL) (t u:Int) (r v:LL) (p m x8 x9 au av aw ax ay az a0 a1 a2 a3:Int) (aq w:LL) (x:Int) (a6:LL) (a7 a8:Int) (a9 ba bb bc bd be bf:LL) (y z A:Int) (C:Bool) (D E:LL) (G H J K L M N O P Q R T U W X Y Z aa ab ac:Int) (ad:LL) (ae af ag ah ai aj:Int) (ak:Bool) (al:Int) (am an ao:LL):Zs5 S (k+1) s q t u r v p m x8 x9 au av aw ax ay az a0 a1 a2 a3 aq w x a6 a7 a8 a9 ba bb bc bd be bf y z A C D E G H J K L M N O P Q R T U W X Y Z aa ab ac ad ae af ag ah ai aj ak al am an ao =
 (if P0 .lss x (Xg w:Int) then
 Zn w x hs21 fun (bg:Qt30)=>
 if P0 .eql bg.1 m then
 Zn w x hs21 fun (a4:Qt30)=>
 Zn w x hs21 fun (n:Qt30)=>
 Zl ((0:Int)≤a4.2.1)<|
 Zl ((a4.2.1:Int) < (Xg aq:Int))<|
 Zl ((0:Int)≤a4.2.1)<|
 Zl ((a4.2.1:Int) < (Xg aq:Int))<|
 Zs5 S k s q t u r v p m x8 x9 au av aw ax ay az a0 a1 a2 a3 (Zw aq (Int.toNat a4.2.1) 0 [I n.2.2.1,I n.2.2.2.1,I (d4 n).1,AV.slice Xb 3 (d4 n).2.1,I (d6 n).1,I (d6 n).2.1,I (d8 n).1,I (d8 n).2.1,I (df n).1,I (df n).2.1,B (dg n)]) w (P1 .add .i64 x 1) a6 a7 a8 a9 ba bb bc bd be bf y z A C D E G H J K L M N O P Q R T U W X Y Z aa ab ac ad ae af ag ah ai aj ak al am an ao
 else
 Zs5 S k s q t u r v p m x8 x9 au av aw ax ay az a0 a1 a2 a3 aq w (P1 .add .i64 x 1) a6 a7 a8 a9 ba bb bc bd be bf y z A C D E G H J K L M N O P Q R T U W X Y Z aa ab ac ad ae af ag ah ai aj ak al am an ao
 else
 Zn q m [.int .i64] fun (bg:Int)=>
 (g10 a6 a7 a8 a9 ba bb bc bd be bf).bind fun o=>
 (g9 m (P1 .add .i64 p 1) bg aq r o.1 x8 x9 au av aw ax ay az a0 a1 a2 a3).bind fun g=>
 (g11 o.2.1 o.2.2.1 o.2.2.2.1 (d4 o).1 (d4 o).2.1 (d6 o).1 (d6 o).2.1 (d8 o).1 (d8 o).2.1 o.2.2.2.2.2.2.2.2.2.2 m (P1 .add .i64 p 1) x8 x9 au av aw ax ay az a0 a1 a2 a3).bind fun h=>
 if (P0 .neq (dg (P2 g)).2 0) then
 S [.l s,.l q,.i t,.i u,.l r,.l v,.i (P1 .add .i64 p 1),.l (d8 h).2.1,.i (df h).1,.i (df h).2.1,.l (dg h).1,.l (dg h).2.1,.l (dh h).1,.l (dh h).2.1,.l (P2 h).1,.l (P2 h).2.1,.l (d2 (P2 h)),.i y,.i z,.i A,.b C,.l D,.l E,.i G,.i H,.i J,.i K,.i L,.i M,.i N,.i O,.i P,.i Q,.i R,.i T,.i U,.i W,.i X,.i Y,.i Z,.i aa,.i ab,.i ac,.l ad,.i ae,.i af,.i ag,.i ah,.i ai,.i aj,.b ak,.i al,.l am,.l an,.l ao]
 else
 if P0 .eql x8 4 then
 if P0 .eql h.1 3 then
 (g13 y z A C D E G H J K L M N O P Q R T U W X Y Z aa ab ac ad ae af ag ah ai aj ak al am an ao g.1 g.2.1 g.2.2.1 g.2.2.2.1 (d4 g).1 (d4 g).2.1 (d6 g).1 (d6 g).2.1 (d8 g).1 (d8 g).2.1 (df g).1 (df g).2.1 (dg g).1 (dg g).2.1 (dh g).1 (dh g).2.1 (P2 g).1 (P2 g).2.1 (d2 (P2 g)).1 (d2 (P2 g)).2.1 (d4 (P2 g)).1 (d4 (P2 g)).2.1 (d6 (P2 g)).1 (d6 (P2 g)).2.1 (d8 (P2 g)).1 (d8 (P2 g)).2.1 (df (P2 g)).1 (df (P2 g)).2.1).bind fun c=>
 (g12 c.2.1 c.2.2.1 c.2.2.2.1 (d4 c).1 (d4 c).2.1 (d6 c).1 (d6 c).2.1 (d8 c).1 (d8 c).2.1 (df c).1 (df c).2.1 (dg c).1 (dg c).2.1 (dh c).1 (dh c).2.1 (P2 c).1 (P2 c).2.1 (d2 (P2 c)).1 (d2 (P2 c)).2.1 (d4 (P2 c)).1 (d4 (P2 c)).2.1 (d6 (P2 c)).1 (d6 (P2 c)).2.1 (d8 (P2 c)).1 (d8 (P2 c)).2.1 (df (P2 c)).1 (df (P2 c)).2.1 (dg (P2 c)).1 (dg (P2 c)).2.1 (dh (P2 c)).1 (dh (P2 c)).2.1 (di c).1 (di c).2.1 (d2 (di c)).1 (d2 (di c)).2.1 (d4 (di c)).1 (d4 (di c)).2.1 (d6 (di c)) c.1 3).bind fun a=>
 if (!(df (dk a)).2.1) then
 Xa (Xb)
 else
 if P0 .neq (df a).1 h.1 then
 Xa (Xb)
 else
 if P0 .neq a.2.2.2.1 m then
 Xa (Xb)
 else
 if (!((P0 .eql (d6 a).2.1 g.1)&&((P0 .eql (d8 a).1 g.2.1)&&((P0 .eql (d8 a).2.1 g.2.2.1)&&true)))) then
 Xa (Xb)
 else
 (g15 (dg (dk a)).1 (dg (dk a)).2.1 (dh (dk a)).1 (dh (dk a)).2.1 (dl a).1 (dl a).2.1 (d2 (dl a)).1 (d2 (dl a)).2.1 (d4 (dl a)).1 (d4 (dl a)).2.1 (d6 (dl a)).1 (d6 (dl a)).2.1 (d8 (dl a)).1 (d8 (dl a)).2.1 (df (dl a)).1 (df (dl a)).2.1 (dg (dl a)).1 (dg (dl a)).2.1 (dh (dl a)).1 (dh (dl a)).2.1 (P2 (dl a)).1 (P2 (dl a)).2.1 (d2 (P2 (dl a))).1 (d2 (P2 (dl a))).2.1 (d4 (P2 (dl a))).1 (d4 (P2 (dl a))).2.1 (d6 (P2 (dl a))).1 (d6 (P2 (dl a))).2.1 (d8 (P2 (dl a))).1 (d8 (P2 (dl a))).2.1 (df (P2 (dl a))).1 (df (P2 (dl a))).2.1 (dg (P2 (dl a))).1 (dg (P2 (dl a))).2.1 (dh (P2 (dl a))).1 (dh (P2 (dl a))).2.1 (di (dl a)).1 (di (dl a)).2).bind fun d=>
 (g8 (d8 h).2.1 (df h).1 (df h).2.1 (dg h).1 (dg h).2.1 (dh h).1 (dh h).2.1 (P2 h).1 (P2 h).2.1 (d2 (P2 h))).bind fun j=>
 (g14 d.1 j.1).bind fun a5=>
 if (!a5) then
 Xa (Xb)
 else
 (g16 d.2.1 d.2.2.1 d.2.2.2.1 (d4 d).1 (d4 d).2.1 (d6 d).1 (d6 d).2.1 (d8 d).1 (d8 d).2.1 (df d).1 (df d).2.1 (dg d).1 (dg d).2.1 (dh d).1 (dh d).2.1 (P2 d).1 (P2 d).2.1 (d2 (P2 d)).1 (d2 (P2 d)).2.1 (d4 (P2 d)).1 (d4 (P2 d)).2.1 (d6 (P2 d)).1 (d6 (P2 d)).2.1 (d8 (P2 d)).1 (d8 (P2 d)).2.1 (df (P2 d)).1 (df (P2 d)).2.1 (dg (P2 d)).1 (dg (P2 d)).2.1 (dh (P2 d)).1 (dh (P2 d)).2.1 (di d).1 (di d).2.1 (d2 (di d)).1 (d2 (di d)).2.1 (d4 (di d)).1 (d4 (di d)).2.1 (d6 (di d)) 3 0 m 0 0 0 0 g.1 g.2.1 g.2.2.1 0 Xb 0 0 0 0 0 0 0 0 0 0 0 0 0 0 0 0 0 0 0 0 E0 0 0 0 0 0 0 Xb E0 E0 E0 E0 0 0 E0 E0 E0 E0 E0 E0 E0 E0 0 0 E0 E0 E0 E0 E0 E0 E0 E0 Xb 0 E0 E0 E0 E0 E0 E0 E0 E0).bind fun e=>
 (g17 e.2.2.1 e.2.2.2.1 (d4 e).1 (d4 e).2.1 (d6 e).1 (d6 e).2.1 (d8 e).1 (d8 e).2.1 (df e).1 (df e).2.1 (dg e).1 (dg e).2.1 (dh e).1 (dh e).2.1 (P2 e).1 (P2 e).2.1 (d2 (P2 e)).1 (d2 (P2 e)).2.1 (d4 (P2 e)).1 (d4 (P2 e)).2.1 (d6 (P2 e)).1 (d6 (P2 e)).2.1 (d8 (P2 e)).1 (d8 (P2 e)).2.1 (df (P2 e)).1 (df (P2 e)).2.1 (dg (P2 e)).1 (dg (P2 e)).2.1 (dh (P2 e)).1 (dh (P2 e)).2.1 (di e).1 (di e).2.1 (d2 (di e)).1 (d2 (di e)).2.1 (d4 (di e)).1 (d4 (di e)).2.1 (d6 (di e)).1 (d6 (di e)).2).bind fun f=>
 if P0 .neq (Xg e.1:Int) 0 then
 Xa (Xb)
 else
 if (P0 .neq (dg (P2 f)).1 0) then
 Xa (Xb)
 else
 S [.l s,.l q,.i t,.i u,.l r,.l v,.i (P1 .add .i64 p 1),.l j.2.1,.i j.2.2.1,.i j.2.2.2.1,.l (d4 j).1,.l (d4 j).2.1,.l (d6 j).1,.l (d6 j).2.1,.l (d8 j).1,.l (d8 j).2.1,.l j.2.2.2.2.2.2.2.2.2.2,.i (dg (P2 f)).2.1,.i (dh (P2 f)).1,.i (dh (P2 f)).2.1,.b (di f).1,.l (di f).2.1,.l (d2 (di f)).1,.i (d2 (di f)).2.1,.i (d4 (di f)).1,.i (d4 (di f)).2.1,.i (d6 (di f)).1,.i (d6 (di f)).2.1,.i (d8 (di f)).1,.i (d8 (di f)).2.1,.i (df (di f)).1,.i (df (di f)).2.1,.i (dg (di f)).1,.i (dg (di f)).2.1,.i (dh (di f)).1,.i (dh (di f)).2.1,.i (dj f).1,.i (dj f).2.1,.i (d2 (dj f)).1,.i (d2 (dj f)).2.1,.i (d4 (dj f)).1,.i (d4 (dj f)).2.1,.i (d6 (dj f)).1,.l (d6 (dj f)).2.1,.i (d8 (dj f)).1,.i (d8 (dj f)).2.1,.i (df (dj f)).1,.i (df (dj f)).2.1,.i (dg (dj f)).1,.i (dg (dj f)).2.1,.b (dh (dj f)).1,.i (dh (dj f)).2.1,.l (dk f).1,.l (dk f).2.1,.l (d2 (dk f))]
 else
 (g13 y z A C D E G H J K L M N O P Q R T U W X Y Z aa ab ac ad ae af ag ah ai aj ak al am an ao g.1 g.2.1 g.2.2.1 g.2.2.2.1 (d4 g).1 (d4 g).2.1 (d6 g).1 (d6 g).2.1 (d8 g).1 (d8 g).2.1 (df g).1 (df g).2.1 (dg g).1 (dg g).2.1 (dh g).1 (dh g).2.1 (P2 g).1 (P2 g).2.1 (d2 (P2 g)).1 (d2 (P2 g)).2.1 (d4 (P2 g)).1 (d4 (P2 g)).2.1 (d6 (P2 g)).1 (d6 (P2 g)).2.1 (d8 (P2 g)).1 (d8 (P2 g)).2.1 (df (P2 g)).1 (df (P2 g)).2.1).bind fun c=>
 (g12 c.2.1 c.2.2.1 c.2.2.2.1 (d4 c).1 (d4 c).2.1 (d6 c).1 (d6 c).2.1 (d8 c).1 (d8 c).2.1 (df c).1 (df c).2.1 (dg c).1 (dg c).2.1 (dh c).1 (dh c).2.1 (P2 c).1 (P2 c).2.1 (d2 (P2 c)).1 (d2 (P2 c)).2.1 (d4 (P2 c)).1 (d4 (P2 c)).2.1 (d6 (P2 c)).1 (d6 (P2 c)).2.1 (d8 (P2 c)).1 (d8 (P2 c)).2.1 (df (P2 c)).1 (df (P2 c)).2.1 (dg (P2 c)).1 (dg (P2 c)).2.1 (dh (P2 c)).1 (dh (P2 c)).2.1 (di c).1 (di c).2.1 (d2 (di c)).1 (d2 (di c)).2.1 (d4 (di c)).1 (d4 (di c)).2.1 (d6 (di c)) c.1 0).bind fun a=>
 if (!(df (dk a)).2.1) then
 Xa (Xb)
 else
 if P0 .neq (df a).1 h.1 then
 Xa (Xb)
 else
 if P0 .neq a.2.2.2.1 m then
 Xa (Xb)
 else
 if (!((P0 .eql (d6 a).2.1 g.1)&&((P0 .eql (d8 a).1 g.2.1)&&((P0 .eql (d8 a).2.1 g.2.2.1)&&true)))) then
 Xa (Xb)
 else
 (g15 (dg (dk a)).1 (dg (dk a)).2.1 (dh (dk a)).1 (dh (dk a)).2.1 (dl a).1 (dl a).2.1 (d2 (dl a)).1 (d2 (dl a)).2.1 (d4 (dl a)).1 (d4 (dl a)).2.1 (d6 (dl a)).1 (d6 (dl a)).2.1 (d8 (dl a)).1 (d8 (dl a)).2.1 (df (dl a)).1 (df (dl a)).2.1 (dg (dl a)).1 (dg (dl a)).2.1 (dh (dl a)).1 (dh (dl a)).2.1 (P2 (dl a)).1 (P2 (dl a)).2.1 (d2 (P2 (dl a))).1 (d2 (P2 (dl a))).2.1 (d4 (P2 (dl a))).1 (d4 (P2 (dl a))).2.1 (d6 (P2 (dl a))).1 (d6 (P2 (dl a))).2.1 (d8 (P2 (dl a))).1 (d8 (P2 (dl a))).2.1 (df (P2 (dl a))).1 (df (P2 (dl a))).2.1 (dg (P2 (dl a))).1 (dg (P2 (dl a))).2.1 (dh (P2 (dl a))).1 (dh (P2 (dl a))).2.1 (di (dl a)).1 (di (dl a)).2).bind fun d=>
 (g8 (d8 h).2.1 (df h).1 (df h).2.1 (dg h).1 (dg h).2.1 (dh h).1 (dh h).2.1 (P2 h).1 (P2 h).2.1 (d2 (P2 h))).bind fun j=>
 (g14 d.1 j.1).bind fun a5=>
 if (!a5) then
 Xa (Xb)
 else
 (g16 d.2.1 d.2.2.1 d.2.2.2.1 (d4 d).1 (d4 d).2.1 (d6 d).1 (d6 d).2.1 (d8 d).1 (d8 d).2.1 (df d).1 (df d).2.1 (dg d).1 (dg d).2.1 (dh d).1 (dh d).2.1 (P2 d).1 (P2 d).2.1 (d2 (P2 d)).1 (d2 (P2 d)).2.1 (d4 (P2 d)).1 (d4 (P2 d)).2.1 (d6 (P2 d)).1 (d6 (P2 d)).2.1 (d8 (P2 d)).1 (d8 (P2 d)).2.1 (df (P2 d)).1 (df (P2 d)).2.1 (dg (P2 d)).1 (dg (P2 d)).2.1 (dh (P2 d)).1 (dh (P2 d)).2.1 (di d).1 (di d).2.1 (d2 (di d)).1 (d2 (di d)).2.1 (d4 (di d)).1 (d4 (di d)).2.1 (d6 (di d)) 3 0 m 0 0 0 0 g.1 g.2.1 g.2.2.1 0 Xb 0 0 0 0 0 0 0 0 0 0 0 0 0 0 0 0 0 0 0 0 E0 0 0 0 0 0 0 Xb E0 E0 E0 E0 0 0 E0 E0 E0 E0 E0 E0 E0 E0 0 0 E0 E0 E0 E0 E0 E0 E0 E0 Xb 0 E0 E0 E0 E0 E0 E0 E0 E0).bind fun e=>
 (g17 e.2.2.1 e.2.2.2.1 (d4 e).1 (d4 e).2.1 (d6 e).1 (d6 e).2.1 (d8 e).1 (d8 e).2.1 (df e).1 (df e).2.1 (dg e).1 (dg e).2.1 (dh e).1 (dh e).2.1 (P2 e).1 (P2 e).2.1 (d2 (P2 e)).1 (d2 (P2 e)).2.1 (d4 (P2 e)).1 (d4 (P2 e)).2.1 (d6 (P2 e)).1 (d6 (P2 e)).2.1 (d8 (P2 e)).1 (d8 (P2 e)).2.1 (df (P2 e)).1 (df (P2 e)).2.1 (dg (P2 e)).1 (dg (P2 e)).2.1 (dh (P2 e)).1 (dh (P2 e)).2.1 (di e).1 (di e).2.1 (d2 (di e)).1 (d2 (di e)).2.1 (d4 (di e)).1 (d4 (di e)).2.1 (d6 (di e)).1 (d6 (di e)).2).bind fun f=>
 if P0 .neq (Xg e.1:Int) 0 then
 Xa (Xb)
 else
 if (P0 .neq (dg (P2 f)).1 0) then
 Xa (Xb)
 else
 S [.l s,.l q,.i t,.i u,.l r,.l v,.i (P1 .add .i64 p 1),.l j.2.1,.i j.2.2.1,.i j.2.2.2.1,.l (d4 j).1,.l (d4 j).2.1,.l (d6 j).1,.l (d6 j).2.1,.l (d8 j).1,.l (d8 j).2.1,.l j.2.2.2.2.2.2.2.2.2.2,.i (dg (P2 f)).2.1,.i (dh (P2 f)).1,.i (dh (P2 f)).2.1,.b (di f).1,.l (di f).2.1,.l (d2 (di f)).1,.i (d2 (di f)).2.1,.i (d4 (di f)).1,.i (d4 (di f)).2.1,.i (d6 (di f)).1,.i (d6 (di f)).2.1,.i (d8 (di f)).1,.i (d8 (di f)).2.1,.i (df (di f)).1,.i (df (di f)).2.1,.i (dg (di f)).1,.i (dg (di f)).2.1,.i (dh (di f)).1,.i (dh (di f)).2.1,.i (dj f).1,.i (dj f).2.1,.i (d2 (dj f)).1,.i (d2 (dj f)).2.1,.i (d4 (dj f)).1,.i (d4 (dj f)).2.1,.i (d6 (dj f)).1,.l (d6 (dj f)).2.1,.i (d8 (dj f)).1,.i (d8 (dj f)).2.1,.i (df (dj f)).1,.i (df (dj f)).2.1,.i (dg (dj f)).1,.i (dg (dj f)).2.1,.b (dh (dj f)).1,.i (dh (dj f)).2.1,.l (dk f).1,.l (dk f).2.1,.l (d2 (dk f))]
 else
 (g13 y z A C D E G H J K L M N O P Q R T U W X Y Z aa ab ac ad ae af ag ah ai aj ak al am an ao g.1 g.2.1 g.2.2.1 g.2.2.2.1 (d4 g).1 (d4 g).2.1 (d6 g).1 (d6 g).2.1 (d8 g).1 (d8 g).2.1 (df g).1 (df g).2.1 (dg g).1 (dg g).2.1 (dh g).1 (dh g).2.1 (P2 g).1 (P2 g).2.1 (d2 (P2 g)).1 (d2 (P2 g)).2.1 (d4 (P2 g)).1 (d4 (P2 g)).2.1 (d6 (P2 g)).1 (d6 (P2 g)).2.1 (d8 (P2 g)).1 (d8 (P2 g)).2.1 (df (P2 g)).1 (df (P2 g)).2.1).bind fun c=>
 (g12 c.2.1 c.2.2.1 c.2.2.2.1 (d4 c).1 (d4 c).2.1 (d6 c).1 (d6 c).2.1 (d8 c).1 (d8 c).2.1 (df c).1 (df c).2.1 (dg c).1 (dg c).2.1 (dh c).1 (dh c).2.1 (P2 c).1 (P2 c).2.1 (d2 (P2 c)).1 (d2 (P2 c)).2.1 (d4 (P2 c)).1 (d4 (P2 c)).2.1 (d6 (P2 c)).1 (d6 (P2 c)).2.1 (d8 (P2 c)).1 (d8 (P2 c)).2.1 (df (P2 c)).1 (df (P2 c)).2.1 (dg (P2 c)).1 (dg (P2 c)).2.1 (dh (P2 c)).1 (dh (P2 c)).2.1 (di c).1 (di c).2.1 (d2 (di c)).1 (d2 (di c)).2.1 (d4 (di c)).1 (d4 (di c)).2.1 (d6 (di c)) c.1 0).bind fun a=>
 if (!(df (dk a)).2.1) then
 Xa (Xb)
 else
 if P0 .neq (df a).1 h.1 then
 Xa (Xb)
 else
 if P0 .neq a.2.2.2.1 m then
 Xa (Xb)
 else
 if (!((P0 .eql (d6 a).2.1 g.1)&&((P0 .eql (d8 a).1 g.2.1)&&((P0 .eql (d8 a).2.1 g.2.2.1)&&true)))) then
 Xa (Xb)
 else
 (g15 (dg (dk a)).1 (dg (dk a)).2.1 (dh (dk a)).1 (dh (dk a)).2.1 (dl a).1 (dl a).2.1 (d2 (dl a)).1 (d2 (dl a)).2.1 (d4 (dl a)).1 (d4 (dl a)).2.1 (d6 (dl a)).1 (d6 (dl a)).2.1 (d8 (dl a)).1 (d8 (dl a)).2.1 (df (dl a)).1 (df (dl a)).2.1 (dg (dl a)).1 (dg (dl a)).2.1 (dh (dl a)).1 (dh (dl a)).2.1 (P2 (dl a)).1 (P2 (dl a)).2.1 (d2 (P2 (dl a))).1 (d2 (P2 (dl a))).2.1 (d4 (P2 (dl a))).1 (d4 (P2 (dl a))).2.1 (d6 (P2 (dl a))).1 (d6 (P2 (dl a))).2.1 (d8 (P2 (dl a))).1 (d8 (P2 (dl a))).2.1 (df (P2 (dl a))).1 (df (P2 (dl a))).2.1 (dg (P2 (dl a))).1 (dg (P2 (dl a))).2.1 (dh (P2 (dl a))).1 (dh (P2 (dl a))).2.1 (di (dl a)).1 (di (dl a)).2).bind fun d=>
 (g8 (d8 h).2.1 (df h).1 (df h).2.1 (dg h).1 (dg h).2.1 (dh h).1 (dh h).2.1 (P2 h).1 (P2 h).2.1 (d2 (P2 h))).bind fun j=>
 (g14 d.1 j.1).bind fun a5=>
 if (!a5) then
 Xa (Xb)
 else
 (g16 d.2.1 d.2.2.1 d.2.2.2.1 (d4 d).1 (d4 d).2.1 (d6 d).1 (d6 d).2.1 (d8 d).1 (d8 d).2.1 (df d).1 (df d).2.1 (dg d).1 (dg d).2.1 (dh d).1 (dh d).2.1 (P2 d).1 (P2 d).2.1 (d2 (P2 d)).1 (d2 (P2 d)).2.1 (d4 (P2 d)).1 (d4 (P2 d)).2.1 (d6 (P2 d)).1 (d6 (P2 d)).2.1 (d8 (P2 d)).1 (d8 (P2 d)).2.1 (df (P2 d)).1 (df (P2 d)).2.1 (dg (P2 d)).1 (dg (P2 d)).2.1 (dh (P2 d)).1 (dh (P2 d)).2.1 (di d).1 (di d).2.1 (d2 (di d)).1 (d2 (di d)).2.1 (d4 (di d)).1 (d4 (di d)).2.1 (d6 (di d)) 3 0 m 0 0 0 0 g.1 g.2.1 g.2.2.1 0 Xb 0 0 0 0 0 0 0 0 0 0 0 0 0 0 0 0 0 0 0 0 E0 0 0 0 0 0 0 Xb E0 E0 E0 E0 0 0 E0 E0 E0 E0 E0 E0 E0 E0 0 0 E0 E0 E0 E0 E0 E0 E0 E0 Xb 0 E0 E0 E0 E0 E0 E0 E0 E0).bind fun e=>
 (g17 e.2.2.1 e.2.2.2.1 (d4 e).1 (d4 e).2.1 (d6 e).1 (d6 e).2.1 (d8 e).1 (d8 e).2.1 (df e).1 (df e).2.1 (dg e).1 (dg e).2.1 (dh e).1 (dh e).2.1 (P2 e).1 (P2 e).2.1 (d2 (P2 e)).1 (d2 (P2 e)).2.1 (d4 (P2 e)).1 (d4 (P2 e)).2.1 (d6 (P2 e)).1 (d6 (P2 e)).2.1 (d8 (P2 e)).1 (d8 (P2 e)).2.1 (df (P2 e)).1 (df (P2 e)).2.1 (dg (P2 e)).1 (dg (P2 e)).2.1 (dh (P2 e)).1 (dh (P2 e)).2.1 (di e).1 (di e).2.1 (d2 (di e)).1 (d2 (di e)).2.1 (d4 (di e)).1 (d4 (di e)).2.1 (d6 (di e)).1 (d6 (di e)).2).bind fun f=>
 if P0 .neq (Xg e.1:Int) 0 then
 Xa (Xb)
 else
 if (P0 .neq (dg (P2 f)).1 0) then
 Xa (Xb)
 else
 S [.l s,.l q,.i t,.i u,.l r,.l v,.i (P1 .add .i64 p 1),.l j.2.1,.i j.2.2.1,.i j.2.2.2.1,.l (d4 j).1,.l (d4 j).2.1,.l (d6 j).1,.l (d6 j).2.1,.l (d8 j).1,.l (d8 j).2.1,.l j.2.2.2.2.2.2.2.2.2.2,.i (dg (P2 f)).2.1,.i (dh (P2 f)).1,.i (dh (P2 f)).2.1,.b (di f).1,.l (di f).2.1,.l (d2 (di f)).1,.i (d2 (di f)).2.1,.i (d4 (di f)).1,.i (d4 (di f)).2.1,.i (d6 (di f)).1,.i (d6 (di f)).2.1,.i (d8 (di f)).1,.i (d8 (di f)).2.1,.i (df (di f)).1,.i (df (di f)).2.1,.i (dg (di f)).1,.i (dg (di f)).2.1,.i (dh (di f)).1,.i (dh (di f)).2.1,.i (dj f).1,.i (dj f).2.1,.i (d2 (dj f)).1,.i (d2 (dj f)).2.1,.i (d4 (dj f)).1,.i (d4 (dj f)).2.1,.i (d6 (dj f)).1,.l (d6 (dj f)).2.1,.i (d8 (dj f)).1,.i (d8 (dj f)).2.1,.i (df (dj f)).1,.i (df (dj f)).2.1,.i (dg (dj f)).1,.i (dg (dj f)).2.1,.b (dh (dj f)).1,.i (dh (dj f)).2.1,.l (dk f).1,.l (dk f).2.1,.l (d2 (dk f))]):=by kernel_rfl
noncomputable def Ztj (k:Nat) (a c:LL) (d e:Int) (f g:LL) (h:Int) (j:LL) (m n:Int) (o p q r s t u:LL) (v w x:Int) (y:Bool) (z A:LL) (C D E G H J K L M N O P Q R T U V W X Y:Int) (Z:LL) (S ab ac ad ae af:Int) (ag:Bool) (ah:Int) (ai aj ak:LL):Option (Bool):=F3.lp [4] 0 r0 k [.l a,.l c,.i d,.i e,.l f,.l g,.i h,.l j,.i m,.i n,.l o,.l p,.l q,.l r,.l s,.l t,.l u,.i v,.i w,.i x,.b y,.l z,.l A,.i C,.i D,.i E,.i G,.i H,.i J,.i K,.i L,.i M,.i N,.i O,.i P,.i Q,.i R,.i T,.i U,.i V,.i W,.i X,.i Y,.l Z,.i S,.i ab,.i ac,.i ad,.i ae,.i af,.b ag,.i ah,.l ai,.l aj,.l ak]
def ZrV (k:Nat) (f h:LL) (i c:Int) (j l:LL) (e:Int) (m:LL) (n o:Int) (p q r s t u v:LL) (w x y:Int) (z:Bool) (A C:LL) (D E G H J K L M N O P Q R T U V W X Y Z:Int) (S:LL) (ab ac ad ae af ag:Int) (ah:Bool) (ai:Int) (aj ak al:LL):Ztj (k+1) f h i c j l e m n o p q r s t u v w x y z A C D E G H J K L M N O P Q R T U V W X Y Z S ab ac ad ae af ag ah ai aj ak al =
 (if P0 .lss e (Xg f:Int) then
 if P0 .lss e 40 then
 Zn f e hs26 fun (g:Int×Int×Int×Int×Int×Int×Int×Int×Int×Int)=>
 (g6 g.1 3).bind fun am=>
 Zn f e hs26 fun (d:Int×Int×Int×Int×Int×Int×Int×Int×Int×Int)=>
 (g7 h i c j l am d.2.1 d.2.2.1 d.2.2.2.1 (d4 d).1 (d4 d).2.1 (d6 d).1 (d6 d).2.1 (d8 d).1 d.2.2.2.2.2.2.2.2.2).bind fun a=>
 Zl (Zfg c 136)<|
 Zl ((c:Int)≤c)<|
 Zl ((c:Int)≤c)<|
 (g8 m n o p q r s t u v).bind fun b=>
 Zs5 (F3.lp [4] 0 r0 k) ZG f h i c j l e am a.1 a.2.1 a.2.2.1 a.2.2.2.1 (d4 a).1 (d4 a).2.1 (d6 a).1 (d6 a).2.1 (d8 a).1 (d8 a).2.1 (df a).1 a.2.2.2.2.2.2.2.2.2.2.2 (List.replicate (Int.toNat c) [I 0,I 0,I 0,AV.slice Xb 3 E0,I 0,I 0,I 0,I 0,I 0,I 0,B Xb,I 0,I 0,I 0,I 0]) b.1 0 b.2.1 b.2.2.1 b.2.2.2.1 (d4 b).1 (d4 b).2.1 (d6 b).1 (d6 b).2.1 (d8 b).1 (d8 b).2.1 b.2.2.2.2.2.2.2.2.2.2 w x y z A C D E G H J K L M N O P Q R T U V W X Y Z S ab ac ad ae af ag ah ai aj ak al
 else
 (g18).bind fun g=>
 Xa (g)
 else
 (g18).bind fun g=>
 Xa (g)):=by kernel_rfl
def Zzi (d:LL):g3 d =
 ((g4 (((E0++[[I 32]])++[[I 39]])++[[I 32]]) 3 10 (E0++[[I 262144,I 16,B Xb]]) (E0++[[I 0]])).bind fun b=>
 Zn (E0++[[I 262144,I 16,B Xb]]) 0 [.int .i64,.int .i64,.bool] fun (c:Int×Int×Bool)=>
 (g5 0 c.1 c.2.1 c.2.2 E0).bind fun a=>
 Ztj ZG d (((E0++[[I 32]])++[[I 39]])++[[I 32]]) 3 10 (E0++[[I 262144,I 16,B Xb]]) (E0++[[I 0]]) 0 b.1 b.2.1 b.2.2.1 b.2.2.2.1 (d4 b).1 (d4 b).2.1 (d6 b).1 (d6 b).2.1 (d8 b).1 b.2.2.2.2.2.2.2.2.2 a.1 a.2.1 a.2.2.1 a.2.2.2.1 (d4 a).1 (d4 a).2.1 (d6 a).1 (d6 a).2.1 (d8 a).1 (d8 a).2.1 (df a).1 (df a).2.1 (dg a).1 (dg a).2.1 (dh a).1 (dh a).2.1 (P2 a).1 (P2 a).2.1 (d2 (P2 a)).1 (d2 (P2 a)).2.1 (d4 (P2 a)).1 (d4 (P2 a)).2.1 (d6 (P2 a)).1 (d6 (P2 a)).2.1 (d8 (P2 a)).1 (d8 (P2 a)).2.1 (df (P2 a)).1 (df (P2 a)).2.1 (dg (P2 a)).1 (dg (P2 a)).2.1 (dh (P2 a)).1 (dh (P2 a)).2.1 (di a).1 (di a).2.1 (d2 (di a)).1 (d2 (di a)).2.1 (d4 (di a)).1 (d4 (di a)).2):=by kernel_rfl
end Go.Proofs.YtnkmbgbpkgmbnaaGreat
