/- Functions of the program, as what they compute. -/
import Derived.Test.YtjldbnbdcmfbmaaGreatF8d
namespace Go.Proofs.YtjldbnbdcmfbmaaGreat
open Go Go.AM
set_option linter.unusedVariables false
set_option maxRecDepth 100000
noncomputable def F20:Fn:=⟨85,[2],[(5,[(1,.box hs30),(3,.c (.int .i64)),(4,.c (.int .i64))]),(9,[(1,.box hs30),(3,.c (.int .i64)),(5,.c (.int .i64))]),(13,[(1,.box hs30),(3,.c (.int .i64)),(6,.c (.int .i64))])],[],0,[],[],Tryz.f20,[.agg hs30],[.c (.bool)],[]⟩
theorem ZEC:F20.S.Ok Tryz.prog 20:=F20.ok Tryz.func20 (by kernel_rfl) trivial
noncomputable def g20 (a b c d e f:LL):Option (Bool):=F20.S.g [.l a,.l b,.l c,.l d,.l e,.l f]
noncomputable def Zjg (k:Nat) (a b c d e f:LL) (g h:Int):Option (Bool):=F20.lp [1,0,1,0,1,0] 0 r0 k [.l a,.l b,.l c,.l d,.l e,.l f,.i g,.i h]
theorem ZkD (k:Nat) (d e f g a h:LL) (c b:Int):Zjg (k+1) d e f g a h c b =
 (if (cop .lss b (List.length a:Int)) then
 Zm a b hs12 fun (i:Qt25)=>
 Zjg k d e f g a h (iop .add .i64 c (List.length i.2.2.2.2.2.1:Int)) (iop .add .i64 b 1)
 else
 some ((cop .leq c 800))):=by kernel_rfl
noncomputable def Zjb (k:Nat) (a b c d e f:LL) (g h:Int):Option (Bool):=F20.lp [1,0,1,0] 0 r0 k [.l a,.l b,.l c,.l d,.l e,.l f,.i g,.i h]
theorem ZjU (k:Nat) (c a d e f g:LL) (h b:Int):Zjb (k+1) c a d e f g h b =
 (if (cop .lss b (List.length a:Int)) then
 Zm a b hs6 fun (i:Qt10)=>
 Zjb k c a d e f g (iop .add .i64 h (List.length (d4 (d16 i)).1:Int)) (iop .add .i64 b 1)
 else
 Zjg Zr c a d e f g h 0):=by kernel_rfl
noncomputable def ZiE (k:Nat) (a b c d e f:LL) (g h:Int):Option (Bool):=F20.lp [1,0] 0 r0 k [.l a,.l b,.l c,.l d,.l e,.l f,.i g,.i h]
theorem ZkU (k:Nat) (a c d e f g:LL) (h b:Int):ZiE (k+1) a c d e f g h b =
 (if (cop .lss b (List.length a:Int)) then
 Zm a b hs11 fun (i:Qt21)=>
 ZiE k a c d e f g (iop .add .i64 h (List.length i.2.2.2.1:Int)) (iop .add .i64 b 1)
 else
 Zjb Zr a c d e f g h 0):=by kernel_rfl
theorem Zrt (a b c d e f:LL):g20 a b c d e f =
 (if (cop .gtr (iop .add .i64 (iop .add .i64 (iop .add .i64 (iop .add .i64 (iop .add .i64 (List.length a:Int) (List.length b:Int)) (List.length c:Int)) (List.length d:Int)) (List.length e:Int)) (List.length f:Int)) 80) then
 some (false)
 else
 ZiE Zr a b c d e f (iop .add .i64 (iop .add .i64 (iop .add .i64 (iop .add .i64 (iop .add .i64 (List.length a:Int) (List.length b:Int)) (List.length c:Int)) (List.length d:Int)) (List.length e:Int)) (List.length f:Int)) 0):=by kernel_rfl
noncomputable def F8:Fn:=⟨95,[2],[(6,[(1,.box hs0),(4,.c (.int .i64))])],[],0,[],[],Tryz.f8,[.agg hs0],[.c (.bool)],[(20,F20.S)]⟩
theorem ok8:F8.S.Ok Tryz.prog 8:=F8.ok Tryz.func8 (by kernel_rfl) ⟨ZEC,trivial⟩
noncomputable def g8 (a c d e f h j k m n o:Int) (p:Bool) (q r s t u v w x y z A C D E G H J K L M:Int) (N:LL) (O P Q R T U:Int) (V:Bool) (W X Y Z:LL) (aa ab:Int) (ac ad ae af ag ah ai aj:LL) (ak al:Int) (am an ao ap aq ar aZ au:LL) (av:Bool) (aw:Int) (ax ay az a0 a1 a2 a3 a4:LL):Option (Bool):=F8.S.g [.i a,.i c,.i d,.i e,.i f,.i h,.i j,.i k,.i m,.i n,.i o,.b p,.i q,.i r,.i s,.i t,.i u,.i v,.i w,.i x,.i y,.i z,.i A,.i C,.i D,.i E,.i G,.i H,.i J,.i K,.i L,.i M,.l N,.i O,.i P,.i Q,.i R,.i T,.i U,.b V,.l W,.l X,.l Y,.l Z,.i aa,.i ab,.l ac,.l ad,.l ae,.l af,.l ag,.l ah,.l ai,.l aj,.i ak,.i al,.l am,.l an,.l ao,.l ap,.l aq,.l ar,.l aZ,.l au,.b av,.i aw,.l ax,.l ay,.l az,.l a0,.l a1,.l a2,.l a3,.l a4]
noncomputable def ZwB (k:Nat) (a c d e f g h j m n o:Int) (p:Bool) (q r s t u v w x y z A C D E G H J K L M:Int) (N:LL) (O P Q R T U:Int) (V:Bool) (W X Y Z:LL) (aa ab:Int) (ac ad ae af ag ah ai aj:LL) (ak al:Int) (am an ao ap aq ar aZ au:LL) (av:Bool) (aw:Int) (ax ay az a0 a1 a2 a3 a4:LL) (a5:Int):Option (Bool):=F8.lp [1,1,0] 0 r0 k [.i a,.i c,.i d,.i e,.i f,.i g,.i h,.i j,.i m,.i n,.i o,.b p,.i q,.i r,.i s,.i t,.i u,.i v,.i w,.i x,.i y,.i z,.i A,.i C,.i D,.i E,.i G,.i H,.i J,.i K,.i L,.i M,.l N,.i O,.i P,.i Q,.i R,.i T,.i U,.b V,.l W,.l X,.l Y,.l Z,.i aa,.i ab,.l ac,.l ad,.l ae,.l af,.l ag,.l ah,.l ai,.l aj,.i ak,.i al,.l am,.l an,.l ao,.l ap,.l aq,.l ar,.l aZ,.l au,.b av,.i aw,.l ax,.l ay,.l az,.l a0,.l a1,.l a2,.l a3,.l a4,.i a5]
theorem Zoi (k:Nat) (w x y z A C D E G H J:Int) (K:Bool) (L M N O P Q R T U V W X Y Z aa ab ac ad ae af:Int) (ag:LL) (ah ai aj ak al am:Int) (an:Bool) (ao a ap aq:LL) (ar aZ:Int) (au av c d e f g h:LL) (aw ax:Int) (ay az i j l m n o:LL) (a0:Bool) (a1:Int) (a2 a3 p q r s t u:LL) (b:Int):ZwB (k+1) w x y z A C D E G H J K L M N O P Q R T U V W X Y Z aa ab ac ad ae af ag ah ai aj ak al am an ao a ap aq ar aZ au av c d e f g h aw ax ay az i j l m n o a0 a1 a2 a3 p q r s t u b =
 (if (cop .lss b (List.length a:Int)) then
 Zm a b hs16 fun (v:Qt31)=>
 if (cop .gtr (List.length v.2.2.2.1:Int) 30) then
 some (false)
 else
 ZwB k w x y z A C D E G H J K L M N O P Q R T U V W X Y Z aa ab ac ad ae af ag ah ai aj ak al am an ao a ap aq ar aZ au av c d e f g h aw ax ay az i j l m n o a0 a1 a2 a3 p q r s t u (iop .add .i64 b 1)
 else
 (g20 c d e f g h).bind fun v=>
 if v then
 (g20 i j l m n o).bind fun a4=>
 if a4 then
 (g20 p q r s t u).bind fun a5=>
 some (a5)
 else
 some (false)
 else
 some (false)):=by kernel_rfl
theorem ZBB (l m n o p q r s t u v:Int) (w:Bool) (x y z A C D E G H J K L M N O P Q R T U:Int) (a:LL) (V W X Y Z aa:Int) (ab:Bool) (b c d e:LL) (ac ad:Int) (f g ae af ag ah ai aj:LL) (ak al:Int) (h i am an ao ap aq ar:LL) (aZ:Bool) (au:Int) (j k av aw ax ay az a0:LL):g8 l m n o p q r s t u v w x y z A C D E G H J K L M N O P Q R T U a V W X Y Z aa ab b c d e ac ad f g ae af ag ah ai aj ak al h i am an ao ap aq ar aZ au j k av aw ax ay az a0 =
 (if (cop .gtr (iop .add .i64 (iop .add .i64 (iop .add .i64 (iop .add .i64 (iop .add .i64 (iop .add .i64 (iop .add .i64 (iop .add .i64 (iop .add .i64 (List.length b:Int) (List.length c:Int)) (List.length d:Int)) (List.length e:Int)) (List.length f:Int)) (List.length g:Int)) (List.length h:Int)) (List.length i:Int)) (List.length j:Int)) (List.length k:Int)) 300) then
 some (false)
 else
 if (cop .gtr (List.length a:Int) 30) then
 some (false)
 else
 ZwB Zr l m n o p q r s t u v w x y z A C D E G H J K L M N O P Q R T U a V W X Y Z aa ab b c d e ac ad f g ae af ag ah ai aj ak al h i am an ao ap aq ar aZ au j k av aw ax ay az a0 0):=by kernel_rfl
noncomputable def F9:Fn:=⟨38,[0],[],[],0,[],[],Tryz.f9,[],[.c (.bool)],[(14,F14.S),(17,F17.S),(19,F19.S),(12,F12.S)]⟩
theorem ok9:F9.S.Ok Tryz.prog 9:=F9.ok Tryz.func9 (by kernel_rfl) ⟨ZCx,⟨ZEz,⟨ZDm,⟨ZCi,trivial⟩⟩⟩⟩
noncomputable def g9:Option (Bool):=F9.S.g []
theorem ZBo:g9 =
 ((g14 3 1 0 2 0 1 0 0 5 0 0 false 0 0 0 0 0 0 0 0 0 0 0 0 0 0 0 0 0 0 0 0 E0 0 0 0 0 0 0 false E0 E0 E0 E0 0 0 E0 E0 E0 E0 E0 E0 E0 E0 0 0 E0 E0 E0 E0 E0 E0 E0 E0 false 0 E0 E0 E0 E0 E0 E0 E0 E0).bind fun b=>
 (g17 b.1).bind fun a=>
 if (cop .eql b.2 0) then
 if (cop .eql (d2 (d8 (d16 (d16 (d16 (d16 a)))))) 0) then
 ZE (ZbN b.1)<|
 if (ByteArray.toList (bytesOf b.1) == ByteArray.toList (⟨#[3,1,0,2,1,0,5,0]⟩:ByteArray)) then
 (g19 a.1 a.2.1 a.2.2.1 a.2.2.2.1 a.2.2.2.2.1 a.2.2.2.2.2.1 a.2.2.2.2.2.2.1 a.2.2.2.2.2.2.2.1 a.2.2.2.2.2.2.2.2.1 a.2.2.2.2.2.2.2.2.2.1 a.2.2.2.2.2.2.2.2.2.2.1 a.2.2.2.2.2.2.2.2.2.2.2.1 (d4 (d8 a)).1 (d4 (d8 a)).2.1 (d2 (d4 (d8 a))).1 (d2 (d4 (d8 a))).2.1 (d16 a).1 (d16 a).2.1 (d2 (d16 a)).1 (d2 (d16 a)).2.1 (d4 (d16 a)).1 (d4 (d16 a)).2.1 (d2 (d4 (d16 a))).1 (d2 (d4 (d16 a))).2.1 (d8 (d16 a)).1 (d8 (d16 a)).2.1 (d2 (d8 (d16 a))).1 (d2 (d8 (d16 a))).2.1 (d4 (d8 (d16 a))).1 (d4 (d8 (d16 a))).2.1 (d2 (d4 (d8 (d16 a)))).1 (d2 (d4 (d8 (d16 a)))).2.1 (d16 (d16 a)).1 (d16 (d16 a)).2.1 (d2 (d16 (d16 a))).1 (d2 (d16 (d16 a))).2.1 (d4 (d16 (d16 a))).1 (d4 (d16 (d16 a))).2.1 (d2 (d4 (d16 (d16 a)))).1 (d2 (d4 (d16 (d16 a)))).2.1 (d8 (d16 (d16 a))).1 (d8 (d16 (d16 a))).2.1 (d2 (d8 (d16 (d16 a)))).1 (d2 (d8 (d16 (d16 a)))).2.1 (d4 (d8 (d16 (d16 a)))).1 (d4 (d8 (d16 (d16 a)))).2.1 (d2 (d4 (d8 (d16 (d16 a))))).1 (d2 (d4 (d8 (d16 (d16 a))))).2.1 (d16 (d16 (d16 a))).1 (d16 (d16 (d16 a))).2.1 (d2 (d16 (d16 (d16 a)))).1 (d2 (d16 (d16 (d16 a)))).2.1 (d4 (d16 (d16 (d16 a)))).1 (d4 (d16 (d16 (d16 a)))).2.1 (d2 (d4 (d16 (d16 (d16 a))))).1 (d2 (d4 (d16 (d16 (d16 a))))).2.1 (d8 (d16 (d16 (d16 a)))).1 (d8 (d16 (d16 (d16 a)))).2.1 (d2 (d8 (d16 (d16 (d16 a))))).1 (d2 (d8 (d16 (d16 (d16 a))))).2.1 (d4 (d8 (d16 (d16 (d16 a))))).1 (d4 (d8 (d16 (d16 (d16 a))))).2.1 (d2 (d4 (d8 (d16 (d16 (d16 a)))))).1 (d2 (d4 (d8 (d16 (d16 (d16 a)))))).2.1 (d16 (d16 (d16 (d16 a)))).1 (d16 (d16 (d16 (d16 a)))).2.1 (d2 (d16 (d16 (d16 (d16 a))))).1 (d2 (d16 (d16 (d16 (d16 a))))).2.1 (d4 (d16 (d16 (d16 (d16 a))))).1 (d4 (d16 (d16 (d16 (d16 a))))).2.1 (d2 (d4 (d16 (d16 (d16 (d16 a)))))).1 (d2 (d4 (d16 (d16 (d16 (d16 a)))))).2.1 (d8 (d16 (d16 (d16 (d16 a))))).1 (d8 (d16 (d16 (d16 (d16 a))))).2.1 3 1 0 2 0 1 0 0 5 0 0 false 0 0 0 0 0 0 0 0 0 0 0 0 0 0 0 0 0 0 0 0 E0 0 0 0 0 0 0 false E0 E0 E0 E0 0 0 E0 E0 E0 E0 E0 E0 E0 E0 0 0 E0 E0 E0 E0 E0 E0 E0 E0 false 0 E0 E0 E0 E0 E0 E0 E0 E0).bind fun c=>
 if c then
 (g12 3 1 0 2 0 1 0 0 5 0 0 false 0 0 0 0 0 0 0 0 0 0 0 0 0 0 0 0 0 0 0 0 E0 0 0 0 0 0 0 false E0 E0 E0 E0 0 0 E0 E0 E0 E0 E0 E0 E0 E0 0 0 E0 E0 E0 E0 E0 E0 E0 E0 false 0 E0 E0 E0 E0 E0 E0 E0 E0).bind fun d=>
 some (d)
 else
 some (false)
 else
 some (false)
 else
 some (false)
 else
 some (false)):=by kernel_rfl
end Go.Proofs.YtjldbnbdcmfbmaaGreat
