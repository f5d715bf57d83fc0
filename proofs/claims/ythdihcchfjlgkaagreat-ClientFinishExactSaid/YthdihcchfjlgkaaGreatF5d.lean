/- Functions of the program, as what they compute. -/
import Derived.Test.YthdihcchfjlgkaaGreatF5c
namespace Go.Proofs.YthdihcchfjlgkaaGreat
open Go Go.AM
set_option linter.unusedVariables false
set_option maxRecDepth 100000
noncomputable def F11:Fn:=⟨82,[8],[(6,[(9,.c (.slice 15)),(10,.c (.slice 28)),(11,.c (.slice 74)),(12,.c (.slice 2)),(13,.c (.slice 4)),(14,.c (.slice 15)),(15,.c (.slice 28)),(16,.c (.slice 74)),(17,.c (.slice 2)),(18,.c (.slice 4)),(19,.c (.int .i64))])],[],0,[],[],Tryz.f11,[.c (.int .i64),.c (.slice 15),.c (.slice 28),.agg hs0],[.c (.bool)],[(15,F15.S),(17,F17.S),(16,F16.S),(31,F31.S),(18,F18.S),(32,F32.S),(33,F33.S),(34,F34.S)]⟩
theorem ZAV:F11.S.Ok Tryz.prog 11:=F11.ok Tryz.func11 (by kernel_rfl) ⟨ZwR,⟨ZAa,⟨Zz6,⟨ZBP,⟨Zz0,⟨ZzR,⟨ZAX,⟨Zz2,trivial⟩⟩⟩⟩⟩⟩⟩⟩
noncomputable def g11 (a:Int) (c d:LL) (e f h j k m n o p q r:Int) (s:Bool) (t u v w x y z A C D E G H J K L M N O P:Int) (Q:LL) (R T U V W X:Int) (Y:Bool) (Z aa ab ac:LL) (ad ae:Int) (af ag ah ai aj ak al am:LL) (an ao:Int) (ap aq ar aZ au av aw ax:LL) (ay:Bool) (az:Int) (a0 a1 a2 a3 a4 a5 a6 a7:LL):Option (Bool):=F11.S.g [.i a,.l c,.l d,.i e,.i f,.i h,.i j,.i k,.i m,.i n,.i o,.i p,.i q,.i r,.b s,.i t,.i u,.i v,.i w,.i x,.i y,.i z,.i A,.i C,.i D,.i E,.i G,.i H,.i J,.i K,.i L,.i M,.i N,.i O,.i P,.l Q,.i R,.i T,.i U,.i V,.i W,.i X,.b Y,.l Z,.l aa,.l ab,.l ac,.i ad,.i ae,.l af,.l ag,.l ah,.l ai,.l aj,.l ak,.l al,.l am,.i an,.i ao,.l ap,.l aq,.l ar,.l aZ,.l au,.l av,.l aw,.l ax,.b ay,.i az,.l a0,.l a1,.l a2,.l a3,.l a4,.l a5,.l a6,.l a7]
noncomputable def Zkm (k:Nat) (a b c d e f g h j m:LL) (n:Int):Option (Bool):=F11.lp [4,1,0] 0 r0 k [.l a,.l b,.l c,.l d,.l e,.l f,.l g,.l h,.l j,.l m,.i n]
theorem Zj3 (k:Nat) (e f g h c i j l m n:LL) (b:Int):Zkm (k+1) e f g h c i j l m n b =
 (if (cop .lss b (List.length c:Int)) then
 Zl c b [.int .i64,.int .i64,.int .i64,.bool] fun (a:Int×Int×Int×Bool)=>
 Zl n b [.int .i64,.int .i64,.int .i64,.bool] fun (d:Int×Int×Int×Bool)=>
 if (!((cop .eql a.1 d.1)&&((cop .eql a.2.1 d.2.1)&&((cop .eql a.2.2.1 d.2.2.1)&&((a.2.2.2 == d.2.2.2)&&true))))) then
 some (false)
 else
 Zkm k e f g h c i j l m n (iop .add .i64 b 1)
 else
 (g18 e i).bind fun a=>
 if a then
 (g32 f j).bind fun o=>
 if o then
 (g33 g l).bind fun p=>
 if p then
 (g34 h m).bind fun q=>
 some (q)
 else
 some (false)
 else
 some (false)
 else
 some (false)):=by kernel_rfl
theorem ZvL (c:Int) (d e:LL) (f g h i j k l m n o p:Int) (q:Bool) (r s t u v w x y z A C D E G H J K L M N:Int) (O:LL) (P Q R T U V:Int) (W:Bool) (X Y Z aa:LL) (ab ac:Int) (ad ae af ag ah ai aj ak:LL) (al am:Int) (an ao ap aq ar aZ au av:LL) (aw:Bool) (ax:Int) (ay az a0 a1 a2 a3 a4 a5:LL):g11 c d e f g h i j k l m n o p q r s t u v w x y z A C D E G H J K L M N O P Q R T U V W X Y Z aa ab ac ad ae af ag ah ai aj ak al am an ao ap aq ar aZ au av aw ax ay az a0 a1 a2 a3 a4 a5 =
 ((g15 d).bind fun a6=>
 (g17 e).bind fun a7=>
 (g16 c a6 a7 f g h i j k l m n o p q r s t u v w x y z A C D E G H J K L M N O P Q R T U V W X Y Z aa ab ac ad ae af ag ah ai aj ak al am an ao ap aq ar aZ au av aw ax ay az a0 a1 a2 a3 a4 a5).bind fun a=>
 (g31 c d e f g h i j k l m n o p q r s t u v w x y z A C D E G H J K L M N O P Q R T U V W X Y Z aa ab ac ad ae af ag ah ai aj ak al am an ao ap aq ar aZ au av aw ax ay az a0 a1 a2 a3 a4 a5).bind fun b=>
 if (cop .neq (List.length a.2.2.2.2:Int) (List.length b.2.2.2.2:Int)) then
 some (false)
 else
 Zkm Zw a.1 a.2.1 a.2.2.1 a.2.2.2.1 a.2.2.2.2 b.1 b.2.1 b.2.2.1 b.2.2.2.1 b.2.2.2.2 0):=by kernel_rfl
noncomputable def F5:Fn:=⟨51,[4],[(2,[(0,.c (.slice 15)),(1,.c (.slice 28)),(5,.c (.int .i64))]),(7,[(0,.c (.slice 15)),(1,.c (.slice 28)),(6,.c (.int .i64))])],[],0,[],[],Tryz.f5,[.c (.slice 15),.c (.slice 28)],[.c (.bool)],[]⟩
theorem ok5:F5.S.Ok Tryz.prog 5:=F5.ok Tryz.func5 (by kernel_rfl) trivial
noncomputable def g5 (a b:LL):Option (Bool):=F5.S.g [.l a,.l b]
noncomputable def Zo6 (k:Nat) (a b:LL) (c:Int):Option (Bool):=F5.lp [2,1,0] 0 r0 k [.l a,.l b,.i c]
theorem Zmg (k:Nat) (c a:LL) (b:Int):Zo6 (k+1) c a b =
 (if (cop .lss b (List.length a:Int)) then
 if (cop .lss b 40) then
 Zl a b hs3 fun (d:Qt7)=>
 if (cop .gtr (List.length (d4 (d16 d)).1:Int) 20) then
 some (false)
 else
 Zo6 k c a (iop .add .i64 b 1)
 else
 if (cop .leq (List.length c:Int) 70) then
 some ((cop .leq (List.length a:Int) 30))
 else
 some (false)
 else
 if (cop .leq (List.length c:Int) 70) then
 some ((cop .leq (List.length a:Int) 30))
 else
 some (false)):=by kernel_rfl
noncomputable def ZsZ (k:Nat) (a b:LL) (c:Int):Option (Bool):=F5.lp [0] 0 r0 k [.l a,.l b,.i c]
theorem ZmY (k:Nat) (a c:LL) (b:Int):ZsZ (k+1) a c b =
 (if (cop .lss b (List.length a:Int)) then
 if (cop .lss b 80) then
 Zl a b hs8 fun (d:Qt13)=>
 if (cop .gtr (List.length d.2.2.2.1:Int) 20) then
 some (false)
 else
 ZsZ k a c (iop .add .i64 b 1)
 else
 Zo6 Zw a c 0
 else
 Zo6 Zw a c 0):=by kernel_rfl
theorem Zy8 (a b:LL):g5 a b =
 (ZsZ Zw a b 0):=by kernel_rfl
noncomputable def F19:Fn:=⟨7,[2],[],[],0,[],[],Tryz.f19,[.c (.int .i64)],[.agg hs3],[]⟩
theorem ZAs:F19.S.Ok Tryz.prog 19:=F19.ok Tryz.func19 (by kernel_rfl) trivial
noncomputable def F6:Fn:=⟨90,[0],[],[],0,[],[],Tryz.f6,[],[.c (.bool)],[(19,F19.S),(14,F14.S),(16,F16.S)]⟩
theorem ok6:F6.S.Ok Tryz.prog 6:=F6.ok Tryz.func6 (by kernel_rfl) ⟨ZAs,⟨ZAF,⟨Zz6,trivial⟩⟩⟩
noncomputable def g6:Option (Bool):=F6.S.g []
noncomputable def F84:Fn:=⟨20,[4],[],[],0,[],[],Tryz.f84,[.c (.int .i64),.c (.int .i64)],[.agg [.int .i64,.int .i64]],[(8,F8.S)]⟩
theorem ZAJ:F84.S.Ok Tryz.prog 84:=F84.ok Tryz.func84 (by kernel_rfl) ⟨ok8,trivial⟩
noncomputable def g84 (a b:Int):Option (Int×Int):=F84.S.g [.i a,.i b]
theorem Zuz (b c:Int):g84 b c =
 ((g8 c 11).bind fun a=>
 ZA ((0:Int)≤(IntKind.wrap .u64 (iop .sub .i64 16 (iop .add .i64 6 a))))<|
 (g8 b (iop .shl .i64 1 (IntKind.wrap .u64 (iop .sub .i64 16 (iop .add .i64 6 a))))).bind fun d=>
 ZA ((0:Int)≤(IntKind.wrap .u64 (iop .add .i64 6 a)))<|
 some ((iop .shl .i64 d (IntKind.wrap .u64 (iop .add .i64 6 a))),(iop .add .i64 6 a))):=by kernel_rfl
noncomputable def F50:Fn:=⟨14,[4],[],[],0,[],[],Tryz.f50,[.c (.int .i64),.c (.int .i64)],[.agg hs16],[(84,F84.S)]⟩
theorem ZBk:F50.S.Ok Tryz.prog 50:=F50.ok Tryz.func50 (by kernel_rfl) ⟨ZAJ,trivial⟩
noncomputable def g50 (a b:Int):Option (Qt21):=F50.S.g [.i a,.i b]
theorem ZuF (a b:Int):g50 a b =
 ((g84 a b).bind fun c=>
 some (1,c.1,c.2,7,0,0,false)):=by kernel_rfl
noncomputable def F85:Fn:=⟨21,[4],[(2,[(0,.c (.slice 13)),(3,.box [.int .i64,.int .i64,.int .i64]),(5,.c (.int .i64))])],[],0,[],[],Tryz.f85,[.c (.slice 13),.agg [.int .i64,.int .i64,.int .i64]],[.c (.int .i64)],[]⟩
theorem ZAd:F85.S.Ok Tryz.prog 85:=F85.ok Tryz.func85 (by kernel_rfl) trivial
noncomputable def g85 (a:LL) (b c d:Int):Option (Int):=F85.S.g [.l a,.i b,.i c,.i d]
noncomputable def Zkw (k:Nat) (a:LL) (b c d e:Int):Option (Int):=F85.lp [0] 0 r0 k [.l a,.i b,.i c,.i d,.i e]
theorem Zjn (k:Nat) (b:LL) (c d e a:Int):Zkw (k+1) b c d e a =
 (if (cop .lss a (List.length b:Int)) then
 Zl b a hs9 fun (f:Qt14)=>
 if ((cop .eql f.2.2.1 c)&&((cop .eql f.2.2.2.1 d)&&((cop .eql f.2.2.2.2.1 e)&&true))) then
 some (a)
 else
 Zkw k b c d e (iop .add .i64 a 1)
 else
 some ((-1))):=by kernel_rfl
theorem ZvW (a:LL) (b c d:Int):g85 a b c d =
 (Zkw Zw a b c d 0):=by kernel_rfl
noncomputable def ZtO:Fn:=⟨13,[2],[],[],0,[],[],Tryz.f146,[.agg [.int .i64,.int .i64]],[.c (.int .i64)],[(145,ZqD.S)]⟩
theorem Zt9:ZtO.S.Ok Tryz.prog 146:=ZtO.ok Tryz.func146 (by kernel_rfl) ⟨ZoZ,trivial⟩
noncomputable def ZsS (a b:Int):Option (Int):=ZtO.S.g [.i a,.i b]
theorem ZrI (b a:Int):ZsS b a =
 ((ZpX b a).bind fun c=>
 if (!c) then
 some (0)
 else
 ZA ((0:Int)≤(IntKind.wrap .u64 a))<|
 some ((iop .add .i64 b (iop .shl .i64 1 (IntKind.wrap .u64 a))))):=by kernel_rfl
noncomputable def F86:Fn:=⟨25,[4],[],[],0,[],[],Tryz.f86,[.agg [.int .i64,.int .i64],.agg [.int .i64,.int .i64]],[.c (.bool)],[(145,ZqD.S),(146,ZtO.S)]⟩
theorem ZAZ:F86.S.Ok Tryz.prog 86:=F86.ok Tryz.func86 (by kernel_rfl) ⟨ZoZ,⟨Zt9,trivial⟩⟩
noncomputable def g86 (a b c d:Int):Option (Bool):=F86.S.g [.i a,.i b,.i c,.i d]
theorem Zu6 (a c b d:Int):g86 a c b d =
 ((ZpX a c).bind fun e=>
 if e then
 (ZpX b d).bind fun f=>
 if f then
 if (cop .leq a b) then
 (ZsS b d).bind fun g=>
 (ZsS a c).bind fun h=>
 some ((cop .leq g h))
 else
 some (false)
 else
 some (false)
 else
 some (false)):=by kernel_rfl
noncomputable def F88:Fn:=⟨25,[4],[],[],0,[],[],Tryz.f88,[.agg [.int .i64,.int .i64],.agg [.int .i64,.int .i64]],[.c (.bool)],[(145,ZqD.S),(146,ZtO.S)]⟩
theorem ZAu:F88.S.Ok Tryz.prog 88:=F88.ok Tryz.func88 (by kernel_rfl) ⟨ZoZ,⟨Zt9,trivial⟩⟩
noncomputable def g88 (a b c d:Int):Option (Bool):=F88.S.g [.i a,.i b,.i c,.i d]
theorem ZvJ (a c b d:Int):g88 a c b d =
 ((ZpX a c).bind fun e=>
 if e then
 (ZpX b d).bind fun f=>
 if f then
 (ZsS b d).bind fun g=>
 if (cop .lss a g) then
 (ZsS a c).bind fun h=>
 some ((cop .lss b h))
 else
 some (false)
 else
 some (false)
 else
 some (false)):=by kernel_rfl
noncomputable def F51:Fn:=⟨64,[6],[(3,[(0,.c (.slice 13)),(2,.c (.slice 7)),(7,.c (.int .i64)),(8,.c (.int .i64))]),(6,[(0,.c (.slice 13)),(2,.c (.slice 7)),(7,.c (.int .i64)),(8,.c (.int .i64)),(9,.c (.int .i64))])],[],0,[],[],Tryz.f51,[.c (.slice 13),.agg [.int .i64,.int .i64,.int .i64],.c (.slice 7)],[.c (.bool)],[(85,F85.S),(87,F87.S),(86,F86.S),(88,F88.S)]⟩
theorem ZAS:F51.S.Ok Tryz.prog 51:=F51.ok Tryz.func51 (by kernel_rfl) ⟨ZAd,⟨ZzJ,⟨ZAZ,⟨ZAu,trivial⟩⟩⟩⟩
noncomputable def g51 (a:LL) (b c d:Int) (e:LL):Option (Bool):=F51.S.g [.l a,.i b,.i c,.i d,.l e]
noncomputable def ZcA (rec0:List V→Option (Bool)) (k:Nat) (a b:LL) (c d e:Int):Option (Bool):=F51.lp [3,0] 1 (ZsL r0 0 rec0) k [.l a,.l b,.i c,.i d,.i e]
theorem ZjT (rec0:List V→Option (Bool)) (k:Nat) (c d:LL) (f e h:Int):ZcA rec0 (k+1) c d f e h =
 (if (cop .lss h (List.length c:Int)) then
 Zl c h hs9 fun (a:Qt14)=>
 if (cop .geq f 0) then
 if (cop .eql a.2.2.2.2.2.2.1 1) then
 (g87 a.2.2.2.2.2.2.1 a.2.2.2.2.2.2.2.1 a.2.2.2.2.2.2.2.2.1 a.2.2.2.2.2.2.2.2.2.1 a.2.2.2.2.2.2.2.2.2.2.1 a.2.2.2.2.2.2.2.2.2.2.2.1 (d4 (d8 a))).bind fun g=>
 Zl c f hs9 fun (b:Qt14)=>
 (g87 b.2.2.2.2.2.2.1 b.2.2.2.2.2.2.2.1 b.2.2.2.2.2.2.2.2.1 b.2.2.2.2.2.2.2.2.2.1 b.2.2.2.2.2.2.2.2.2.2.1 b.2.2.2.2.2.2.2.2.2.2.2.1 (d4 (d8 b))).bind fun o=>
 (g86 g.1 g.2 o.1 o.2).bind fun r=>
 (g87 a.2.2.2.2.2.2.1 a.2.2.2.2.2.2.2.1 a.2.2.2.2.2.2.2.2.1 a.2.2.2.2.2.2.2.2.2.1 a.2.2.2.2.2.2.2.2.2.2.1 a.2.2.2.2.2.2.2.2.2.2.2.1 (d4 (d8 a))).bind fun p=>
 Zl d e hs16 fun (j:Qt21)=>
 (g87 j.1 j.2.1 j.2.2.1 j.2.2.2.1 j.2.2.2.2.1 j.2.2.2.2.2.1 j.2.2.2.2.2.2).bind fun q=>
 (g88 p.1 p.2 q.1 q.2).bind fun s=>
 if s then
 if (!r) then
 some (true)
 else
 ZcA rec0 k c d f e (iop .add .i64 h 1)
 else
 ZcA rec0 k c d f e (iop .add .i64 h 1)
 else
 (g87 a.2.2.2.2.2.2.1 a.2.2.2.2.2.2.2.1 a.2.2.2.2.2.2.2.2.1 a.2.2.2.2.2.2.2.2.2.1 a.2.2.2.2.2.2.2.2.2.2.1 a.2.2.2.2.2.2.2.2.2.2.2.1 (d4 (d8 a))).bind fun g=>
 Zl d e hs16 fun (b:Qt21)=>
 (g87 b.1 b.2.1 b.2.2.1 b.2.2.2.1 b.2.2.2.2.1 b.2.2.2.2.2.1 b.2.2.2.2.2.2).bind fun m=>
 (g88 g.1 g.2 m.1 m.2).bind fun n=>
 if n then
 some (true)
 else
 ZcA rec0 k c d f e (iop .add .i64 h 1)
 else
 (g87 a.2.2.2.2.2.2.1 a.2.2.2.2.2.2.2.1 a.2.2.2.2.2.2.2.2.1 a.2.2.2.2.2.2.2.2.2.1 a.2.2.2.2.2.2.2.2.2.2.1 a.2.2.2.2.2.2.2.2.2.2.2.1 (d4 (d8 a))).bind fun g=>
 Zl d e hs16 fun (b:Qt21)=>
 (g87 b.1 b.2.1 b.2.2.1 b.2.2.2.1 b.2.2.2.2.1 b.2.2.2.2.2.1 b.2.2.2.2.2.2).bind fun m=>
 (g88 g.1 g.2 m.1 m.2).bind fun n=>
 if n then
 some (true)
 else
 ZcA rec0 k c d f e (iop .add .i64 h 1)
 else
 rec0 [.l c,.l d,.i f,.i (iop .add .i64 e 1)]):=by kernel_rfl
noncomputable def Zl1 (k:Nat) (a b:LL) (c d:Int):Option (Bool):=F51.lp [2] 0 r0 k [.l a,.l b,.i c,.i d]
theorem Zi8 (k:Nat) (c a:LL) (d b:Int):Zl1 (k+1) c a d b =
 (if (cop .lss b (List.length a:Int)) then
 ZcA (F51.lp [2] 0 r0 k) Zw c a d b 0
 else
 some (false)):=by kernel_rfl
theorem Zta (a:LL) (b c d:Int) (e:LL):g51 a b c d e =
 ((g85 a b c d).bind fun f=>
 Zl1 Zw a e f 0):=by kernel_rfl
noncomputable def ZvD:Fn:=⟨31,[6],[(2,[(0,.c (.slice 13)),(1,.c (.int .i64)),(2,.c (.int .i64)),(7,.c (.int .i64))])],[],0,[],[],Tryz.f147,[.c (.slice 13),.c (.int .i64),.c (.int .i64)],[.c (.int .i64)],[]⟩
theorem ZxN:ZvD.S.Ok Tryz.prog 147:=ZvD.ok Tryz.func147 (by kernel_rfl) trivial
noncomputable def ZyH (a:LL) (b c:Int):Option (Int):=ZvD.S.g [.l a,.i b,.i c]
noncomputable def Zdh (k:Nat) (a:LL) (b c d:Int):Option (Int):=ZvD.lp [0] 0 r0 k [.l a,.i b,.i c,.i d]
theorem Zg5 (k:Nat) (b:LL) (c d a:Int):Zdh (k+1) b c d a =
 (if (cop .lss a (List.length b:Int)) then
 Zl b a hs9 fun (e:Qt14)=>
 if (cop .eql e.1 c) then
 Zl b a hs9 fun (f:Qt14)=>
 if (cop .eql f.2.1 d) then
 some (a)
 else
 Zdh k b c d (iop .add .i64 a 1)
 else
 Zdh k b c d (iop .add .i64 a 1)
 else
 some ((-1))):=by kernel_rfl
theorem Zrl (a:LL) (b c:Int):ZyH a b c =
 (Zdh Zw a b c 0):=by kernel_rfl
noncomputable def Zuy:Fn:=⟨32,[2],[(3,[(0,.c (.slice 13)),(3,.c (.own false 85)),(4,.c (.int .i64))])],[],0,[],[],Tryz.f148,[.c (.slice 13)],[.c (.own false 85)],[(26,F26.S)]⟩
theorem ZyR:Zuy.S.Ok Tryz.prog 148:=Zuy.ok Tryz.func148 (by kernel_rfl) ⟨ZpE,trivial⟩
noncomputable def ZpD (a:LL):Option (LL):=Zuy.S.g [.l a]
noncomputable def Zeu (k:Nat) (a b:LL) (c:Int):Option (LL):=Zuy.lp [0] 0 r0 k [.l a,.l b,.i c]
theorem Zhq (k:Nat) (c e:LL) (d:Int):Zeu (k+1) c e d =
 (if (cop .lss d (List.length c:Int)) then
 Zl c d hs9 fun (f:Qt14)=>
 Zl c d hs9 fun (g:Qt14)=>
 Zl c d hs9 fun (b:Qt14)=>
 (g26 b.2.2.1 b.2.2.2.1 b.2.2.2.2.1 b.2.2.2.2.2.1 b.2.2.2.2.2.2.1 b.2.2.2.2.2.2.2.1 b.2.2.2.2.2.2.2.2.1 b.2.2.2.2.2.2.2.2.2.1 b.2.2.2.2.2.2.2.2.2.2.1 b.2.2.2.2.2.2.2.2.2.2.2.1 (d4 (d8 b))).bind fun a=>
 ZA (Jy e (E0++[[AV.val (.int .i64 f.1),AV.val (.int .i64 g.2.1),AV.val (.int .i64 a.1),AV.val (.int .i64 a.2.1),AV.val (.int .i64 a.2.2.1),AV.slice false 3 a.2.2.2.1,AV.val (.int .i64 a.2.2.2.2.1),AV.val (.int .i64 a.2.2.2.2.2.1),AV.val (.int .i64 a.2.2.2.2.2.2.1),AV.val (.int .i64 a.2.2.2.2.2.2.2.1),AV.val (.int .i64 a.2.2.2.2.2.2.2.2.1),AV.val (.int .i64 a.2.2.2.2.2.2.2.2.2.1),AV.val (.bool a.2.2.2.2.2.2.2.2.2.2)]]) 120)<|
 Zeu k c (e++(E0++[[AV.val (.int .i64 f.1),AV.val (.int .i64 g.2.1),AV.val (.int .i64 a.1),AV.val (.int .i64 a.2.1),AV.val (.int .i64 a.2.2.1),AV.slice false 3 a.2.2.2.1,AV.val (.int .i64 a.2.2.2.2.1),AV.val (.int .i64 a.2.2.2.2.2.1),AV.val (.int .i64 a.2.2.2.2.2.2.1),AV.val (.int .i64 a.2.2.2.2.2.2.2.1),AV.val (.int .i64 a.2.2.2.2.2.2.2.2.1),AV.val (.int .i64 a.2.2.2.2.2.2.2.2.2.1),AV.val (.bool a.2.2.2.2.2.2.2.2.2.2)]])) (iop .add .i64 d 1)
 else
 some (e)):=by kernel_rfl
theorem Zr7 (a:LL):ZpD a =
 (Zeu Zw a E0 0):=by kernel_rfl
noncomputable def F89:Fn:=⟨62,[4,5],[(4,[(0,.c (.slice 13)),(3,.box hs9),(6,.c (.int .i64))])],[],0,[],[],Tryz.f89,[.c (.slice 13),.agg hs9],[.c (.own false 85),.c (.bool)],[(85,F85.S),(147,ZvD.S),(25,F25.S),(148,Zuy.S),(26,F26.S)]⟩
theorem ZAO:F89.S.Ok Tryz.prog 89:=F89.ok Tryz.func89 (by kernel_rfl) ⟨ZAd,⟨ZxN,⟨Zzy,⟨ZyR,⟨ZpE,trivial⟩⟩⟩⟩⟩
noncomputable def g89 (a:LL) (c d e f h:Int) (j:LL) (k m n o p q:Int) (r:Bool):Option (LL×Bool):=F89.S.g [.l a,.i c,.i d,.i e,.i f,.i h,.l j,.i k,.i m,.i n,.i o,.i p,.i q,.b r]
noncomputable def Zlf (k:Nat) (a:LL) (c d e f g:Int) (h:LL) (j m n o p q:Int) (r:Bool) (s:Int):Option (LL×Bool):=F89.lp [0,1,0,1,0] 0 r0 k [.l a,.i c,.i d,.i e,.i f,.i g,.l h,.i j,.i m,.i n,.i o,.i p,.i q,.b r,.i s]
theorem ZjU (k:Nat) (d:LL) (e f h i j:Int) (l:LL) (m n o p q r:Int) (s:Bool) (c:Int):Zlf (k+1) d e f h i j l m n o p q r s c =
 (if (cop .lss c (List.length d:Int)) then
 Zl d c hs9 fun (g:Qt14)=>
 (g25 h i j g.2.2.1 g.2.2.2.1 g.2.2.2.2.1).bind fun w=>
 if (!w) then
 Zlf k d e f h i j l m n o p q r s (iop .add .i64 c 1)
 else
 ZA ((0:Int)≤c)<|
 ZA ((c:Int)≤(List.length d:Int))<|
 (ZpD (List.take (Int.toNat c) d)).bind fun t=>
 (g26 h i j l m n o p q r s).bind fun a=>
 ZA (Jy t (E0++[[AV.val (.int .i64 e),AV.val (.int .i64 f),AV.val (.int .i64 a.1),AV.val (.int .i64 a.2.1),AV.val (.int .i64 a.2.2.1),AV.slice false 3 a.2.2.2.1,AV.val (.int .i64 a.2.2.2.2.1),AV.val (.int .i64 a.2.2.2.2.2.1),AV.val (.int .i64 a.2.2.2.2.2.2.1),AV.val (.int .i64 a.2.2.2.2.2.2.2.1),AV.val (.int .i64 a.2.2.2.2.2.2.2.2.1),AV.val (.int .i64 a.2.2.2.2.2.2.2.2.2.1),AV.val (.bool a.2.2.2.2.2.2.2.2.2.2)]]) 120)<|
 ZA ((0:Int)≤c)<|
 ZA ((c:Int)≤(List.length d:Int))<|
 (ZpD (List.drop (Int.toNat c) d)).bind fun u=>
 ZA (Jy (t++(E0++[[AV.val (.int .i64 e),AV.val (.int .i64 f),AV.val (.int .i64 a.1),AV.val (.int .i64 a.2.1),AV.val (.int .i64 a.2.2.1),AV.slice false 3 a.2.2.2.1,AV.val (.int .i64 a.2.2.2.2.1),AV.val (.int .i64 a.2.2.2.2.2.1),AV.val (.int .i64 a.2.2.2.2.2.2.1),AV.val (.int .i64 a.2.2.2.2.2.2.2.1),AV.val (.int .i64 a.2.2.2.2.2.2.2.2.1),AV.val (.int .i64 a.2.2.2.2.2.2.2.2.2.1),AV.val (.bool a.2.2.2.2.2.2.2.2.2.2)]])) u 120)<|
 some (((t++(E0++[[AV.val (.int .i64 e),AV.val (.int .i64 f),AV.val (.int .i64 a.1),AV.val (.int .i64 a.2.1),AV.val (.int .i64 a.2.2.1),AV.slice false 3 a.2.2.2.1,AV.val (.int .i64 a.2.2.2.2.1),AV.val (.int .i64 a.2.2.2.2.2.1),AV.val (.int .i64 a.2.2.2.2.2.2.1),AV.val (.int .i64 a.2.2.2.2.2.2.2.1),AV.val (.int .i64 a.2.2.2.2.2.2.2.2.1),AV.val (.int .i64 a.2.2.2.2.2.2.2.2.2.1),AV.val (.bool a.2.2.2.2.2.2.2.2.2.2)]]))++u),true)
 else
 ZA ((0:Int)≤c)<|
 ZA ((c:Int)≤(List.length d:Int))<|
 (ZpD (List.take (Int.toNat c) d)).bind fun g=>
 (g26 h i j l m n o p q r s).bind fun b=>
 ZA (Jy g (E0++[[AV.val (.int .i64 e),AV.val (.int .i64 f),AV.val (.int .i64 b.1),AV.val (.int .i64 b.2.1),AV.val (.int .i64 b.2.2.1),AV.slice false 3 b.2.2.2.1,AV.val (.int .i64 b.2.2.2.2.1),AV.val (.int .i64 b.2.2.2.2.2.1),AV.val (.int .i64 b.2.2.2.2.2.2.1),AV.val (.int .i64 b.2.2.2.2.2.2.2.1),AV.val (.int .i64 b.2.2.2.2.2.2.2.2.1),AV.val (.int .i64 b.2.2.2.2.2.2.2.2.2.1),AV.val (.bool b.2.2.2.2.2.2.2.2.2.2)]]) 120)<|
 ZA ((0:Int)≤c)<|
 ZA ((c:Int)≤(List.length d:Int))<|
 (ZpD (List.drop (Int.toNat c) d)).bind fun v=>
 ZA (Jy (g++(E0++[[AV.val (.int .i64 e),AV.val (.int .i64 f),AV.val (.int .i64 b.1),AV.val (.int .i64 b.2.1),AV.val (.int .i64 b.2.2.1),AV.slice false 3 b.2.2.2.1,AV.val (.int .i64 b.2.2.2.2.1),AV.val (.int .i64 b.2.2.2.2.2.1),AV.val (.int .i64 b.2.2.2.2.2.2.1),AV.val (.int .i64 b.2.2.2.2.2.2.2.1),AV.val (.int .i64 b.2.2.2.2.2.2.2.2.1),AV.val (.int .i64 b.2.2.2.2.2.2.2.2.2.1),AV.val (.bool b.2.2.2.2.2.2.2.2.2.2)]])) v 120)<|
 some (((g++(E0++[[AV.val (.int .i64 e),AV.val (.int .i64 f),AV.val (.int .i64 b.1),AV.val (.int .i64 b.2.1),AV.val (.int .i64 b.2.2.1),AV.slice false 3 b.2.2.2.1,AV.val (.int .i64 b.2.2.2.2.1),AV.val (.int .i64 b.2.2.2.2.2.1),AV.val (.int .i64 b.2.2.2.2.2.2.1),AV.val (.int .i64 b.2.2.2.2.2.2.2.1),AV.val (.int .i64 b.2.2.2.2.2.2.2.2.1),AV.val (.int .i64 b.2.2.2.2.2.2.2.2.2.1),AV.val (.bool b.2.2.2.2.2.2.2.2.2.2)]]))++v),true)):=by kernel_rfl
theorem Zt0 (a:LL) (b c d e f:Int) (g:LL) (h i j k l m:Int) (n:Bool):g89 a b c d e f g h i j k l m n =
 ((g85 a d e f).bind fun o=>
 if (cop .geq o 0) then
 some (E0,false)
 else
 (ZyH a b c).bind fun p=>
 if (cop .geq p 0) then
 some (E0,false)
 else
 Zlf Zw a b c d e f g h i j k l m n 0):=by kernel_rfl
noncomputable def F52:Fn:=⟨24,[8],[],[],0,[],[],Tryz.f52,[.c (.slice 13),.c (.int .i64),.c (.int .i64),.agg hs10],[.c (.slice 13)],[(89,F89.S)]⟩
theorem ZAG:F52.S.Ok Tryz.prog 52:=F52.ok Tryz.func52 (by kernel_rfl) ⟨ZAO,trivial⟩
noncomputable def g52 (a:LL) (c d e f h:Int) (j:LL) (k m n o p q:Int) (r:Bool):Option (LL):=F52.S.g [.l a,.i c,.i d,.i e,.i f,.i h,.l j,.i k,.i m,.i n,.i o,.i p,.i q,.b r]
theorem Ztf (a:LL) (b c d e f:Int) (g:LL) (h i j k l m:Int) (n:Bool):g52 a b c d e f g h i j k l m n =
 ((g89 a b c d e f g h i j k l m n).bind fun o=>
 if (!o.2) then
 some (a)
 else
 some (o.1)):=by kernel_rfl
noncomputable def F53:Fn:=⟨11,[4],[],[],0,[],[],Tryz.f53,[.agg hs16,.c (.int .i64)],[.agg hs16],[]⟩
theorem ZBT:F53.S.Ok Tryz.prog 53:=F53.ok Tryz.func53 (by kernel_rfl) trivial
noncomputable def g53 (a c d e f h:Int) (j:Bool) (k:Int):Option (Qt21):=F53.S.g [.i a,.i c,.i d,.i e,.i f,.i h,.b j,.i k]
theorem Zui (a b c d e f:Int) (g:Bool) (h:Int):g53 a b c d e f g h =
 (some (a,b,c,(iop .and .i64 d h),e,f,g)):=by kernel_rfl
noncomputable def F54:Fn:=⟨136,[14,15],[(16,[(1,.c (.int .i64)),(2,.c (.int .i64)),(3,.c (.int .i64)),(4,.c (.int .i64)),(5,.c (.int .i64)),(6,.c (.int .i64)),(7,.box hs16),(16,.c (.bool)),(17,.c (.int .i64)),(19,.c (.own false 31)),(20,.c (.int .i64))])],[],0,[],[],Tryz.f54,[.agg hs16,.c (.int .i64),.c (.int .i64),.c (.int .i64),.c (.int .i64),.c (.int .i64),.c (.int .i64)],[.c (.slice 7),.c (.int .i64)],[(90,F90.S),(91,F91.S),(92,F92.S)]⟩
theorem ZBW:F54.S.Ok Tryz.prog 54:=F54.ok Tryz.func54 (by kernel_rfl) ⟨Zzi,⟨ZAl,⟨Zz5,trivial⟩⟩⟩
noncomputable def g54 (a c d e f h:Int) (j:Bool) (k l m n o p:Int):Option (LL×Int):=F54.S.g [.i a,.i c,.i d,.i e,.i f,.i h,.b j,.i k,.i l,.i m,.i n,.i o,.i p]
noncomputable def VF (k:Nat) (a c d e f g h j m n o p:Int) (q r:Bool) (s:Int) (t:LL) (u:Int):Option (LL×Int):=F54.lp [0,1,1,1,0,1,0,0,1,1,1,1,0,0,1,3,1,1,1,0,1,0] 0 r0 k [.i a,.i c,.i d,.i e,.i f,.i g,.i h,.i j,.i m,.i n,.i o,.i p,.b q,.b r,.i s,.l t,.i u]
theorem Zjm (k:Nat) (b c j l d m o e p f q r:Int) (g n:Bool) (h:Int) (i:LL) (a:Int):VF (k+1) b c j l d m o e p f q r g n h i a =
 (if (cop .lss a m) then
 if n then
 ZA (Jy i (E0++[[AV.val (.int .i64 b),AV.val (.int .i64 (iop .add .i64 (iop .add .i64 e d) (iop .mul .i64 a h))),AV.val (.int .i64 c),AV.val (.int .i64 f),AV.val (.int .i64 l),AV.val (.int .i64 j),AV.val (.bool g)]]) 56)<|
 VF k b c j l d m o e p f q r g n h (i++(E0++[[AV.val (.int .i64 b),AV.val (.int .i64 (iop .add .i64 (iop .add .i64 e d) (iop .mul .i64 a h))),AV.val (.int .i64 c),AV.val (.int .i64 f),AV.val (.int .i64 l),AV.val (.int .i64 j),AV.val (.bool g)]])) (iop .add .i64 a 1)
 else
 ZA (Jy i (E0++[[AV.val (.int .i64 b),AV.val (.int .i64 (iop .add .i64 (iop .add .i64 e d) (iop .mul .i64 a h))),AV.val (.int .i64 c),AV.val (.int .i64 f),AV.val (.int .i64 0),AV.val (.int .i64 0),AV.val (.bool g)]]) 56)<|
 VF k b c j l d m o e p f q r g n h (i++(E0++[[AV.val (.int .i64 b),AV.val (.int .i64 (iop .add .i64 (iop .add .i64 e d) (iop .mul .i64 a h))),AV.val (.int .i64 c),AV.val (.int .i64 f),AV.val (.int .i64 0),AV.val (.int .i64 0),AV.val (.bool g)]])) (iop .add .i64 a 1)
 else
 some (i,0)):=by kernel_rfl
theorem Ztj (g i b h j k:Int) (f:Bool) (c a l m d e:Int):g54 g i b h j k f c a l m d e =
 ((g90 g i b h j k f).bind fun n=>
 if (!n) then
 some (E0,5)
 else
 if (cop .neq g 1) then
 some (E0,5)
 else
 if (cop .eql (iop .and .i64 h 2) 0) then
 some (E0,8)
 else
 (g91 c a).bind fun o=>
 if (!o) then
 some (E0,1)
 else
 if (cop .eql c 3) then
 (g92 m l).bind fun p=>
 if (!p) then
 some (E0,1)
 else
 if (cop .lss e 1) then
 some (E0,1)
 else
 if (cop .gtr e 8) then
 some (E0,1)
 else
 if (cop .lss d 0) then
 some (E0,1)
 else
 if f then
 if (cop .neq c 1) then
 if (cop .neq c 2) then
 some (E0,5)
 else
 ZA ((0:Int)≤(IntKind.wrap .u64 a))<|
 ZA ((0:Int)≤(IntKind.wrap .u64 b))<|
 ZA (((iop .shl .i64 1 (IntKind.wrap .u64 a)):Int)≠0)<|
 if (cop .neq (iop .rem .i64 d (iop .shl .i64 1 (IntKind.wrap .u64 a))) 0) then
 some (E0,6)
 else
 if (cop .gtr d (iop .shl .i64 1 (IntKind.wrap .u64 b))) then
 some (E0,6)
 else
 if (cop .gtr (iop .mul .i64 e (iop .shl .i64 1 (IntKind.wrap .u64 a))) (iop .sub .i64 (iop .shl .i64 1 (IntKind.wrap .u64 b)) d)) then
 some (E0,6)
 else
 if (cop .eql c 1) then
 if (cop .geq a b) then
 some (E0,6)
 else
 VF Zw c a l m d e g i b h j k f (cop .eql c 3) (iop .shl .i64 1 (IntKind.wrap .u64 a)) E0 0
 else
 VF Zw c a l m d e g i b h j k f (cop .eql c 3) (iop .shl .i64 1 (IntKind.wrap .u64 a)) E0 0
 else
 ZA ((0:Int)≤(IntKind.wrap .u64 a))<|
 ZA ((0:Int)≤(IntKind.wrap .u64 b))<|
 ZA (((iop .shl .i64 1 (IntKind.wrap .u64 a)):Int)≠0)<|
 if (cop .neq (iop .rem .i64 d (iop .shl .i64 1 (IntKind.wrap .u64 a))) 0) then
 some (E0,6)
 else
 if (cop .gtr d (iop .shl .i64 1 (IntKind.wrap .u64 b))) then
 some (E0,6)
 else
 if (cop .gtr (iop .mul .i64 e (iop .shl .i64 1 (IntKind.wrap .u64 a))) (iop .sub .i64 (iop .shl .i64 1 (IntKind.wrap .u64 b)) d)) then
 some (E0,6)
 else
 if (cop .eql c 1) then
 if (cop .geq a b) then
 some (E0,6)
 else
 VF Zw c a l m d e g i b h j k f (cop .eql c 3) (iop .shl .i64 1 (IntKind.wrap .u64 a)) E0 0
 else
 VF Zw c a l m d e g i b h j k f (cop .eql c 3) (iop .shl .i64 1 (IntKind.wrap .u64 a)) E0 0
 else
 ZA ((0:Int)≤(IntKind.wrap .u64 a))<|
 ZA ((0:Int)≤(IntKind.wrap .u64 b))<|
 ZA (((iop .shl .i64 1 (IntKind.wrap .u64 a)):Int)≠0)<|
 if (cop .neq (iop .rem .i64 d (iop .shl .i64 1 (IntKind.wrap .u64 a))) 0) then
 some (E0,6)
 else
 if (cop .gtr d (iop .shl .i64 1 (IntKind.wrap .u64 b))) then
 some (E0,6)
 else
 if (cop .gtr (iop .mul .i64 e (iop .shl .i64 1 (IntKind.wrap .u64 a))) (iop .sub .i64 (iop .shl .i64 1 (IntKind.wrap .u64 b)) d)) then
 some (E0,6)
 else
 if (cop .eql c 1) then
 if (cop .geq a b) then
 some (E0,6)
 else
 VF Zw c a l m d e g i b h j k f (cop .eql c 3) (iop .shl .i64 1 (IntKind.wrap .u64 a)) E0 0
 else
 VF Zw c a l m d e g i b h j k f (cop .eql c 3) (iop .shl .i64 1 (IntKind.wrap .u64 a)) E0 0
 else
 if (cop .lss e 1) then
 some (E0,1)
 else
 if (cop .gtr e 8) then
 some (E0,1)
 else
 if (cop .lss d 0) then
 some (E0,1)
 else
 if f then
 if (cop .neq c 1) then
 if (cop .neq c 2) then
 some (E0,5)
 else
 ZA ((0:Int)≤(IntKind.wrap .u64 a))<|
 ZA ((0:Int)≤(IntKind.wrap .u64 b))<|
 ZA (((iop .shl .i64 1 (IntKind.wrap .u64 a)):Int)≠0)<|
 if (cop .neq (iop .rem .i64 d (iop .shl .i64 1 (IntKind.wrap .u64 a))) 0) then
 some (E0,6)
 else
 if (cop .gtr d (iop .shl .i64 1 (IntKind.wrap .u64 b))) then
 some (E0,6)
 else
 if (cop .gtr (iop .mul .i64 e (iop .shl .i64 1 (IntKind.wrap .u64 a))) (iop .sub .i64 (iop .shl .i64 1 (IntKind.wrap .u64 b)) d)) then
 some (E0,6)
 else
 if (cop .eql c 1) then
 if (cop .geq a b) then
 some (E0,6)
 else
 VF Zw c a l m d e g i b h j k f (cop .eql c 3) (iop .shl .i64 1 (IntKind.wrap .u64 a)) E0 0
 else
 VF Zw c a l m d e g i b h j k f (cop .eql c 3) (iop .shl .i64 1 (IntKind.wrap .u64 a)) E0 0
 else
 ZA ((0:Int)≤(IntKind.wrap .u64 a))<|
 ZA ((0:Int)≤(IntKind.wrap .u64 b))<|
 ZA (((iop .shl .i64 1 (IntKind.wrap .u64 a)):Int)≠0)<|
 if (cop .neq (iop .rem .i64 d (iop .shl .i64 1 (IntKind.wrap .u64 a))) 0) then
 some (E0,6)
 else
 if (cop .gtr d (iop .shl .i64 1 (IntKind.wrap .u64 b))) then
 some (E0,6)
 else
 if (cop .gtr (iop .mul .i64 e (iop .shl .i64 1 (IntKind.wrap .u64 a))) (iop .sub .i64 (iop .shl .i64 1 (IntKind.wrap .u64 b)) d)) then
 some (E0,6)
 else
 if (cop .eql c 1) then
 if (cop .geq a b) then
 some (E0,6)
 else
 VF Zw c a l m d e g i b h j k f (cop .eql c 3) (iop .shl .i64 1 (IntKind.wrap .u64 a)) E0 0
 else
 VF Zw c a l m d e g i b h j k f (cop .eql c 3) (iop .shl .i64 1 (IntKind.wrap .u64 a)) E0 0
 else
 ZA ((0:Int)≤(IntKind.wrap .u64 a))<|
 ZA ((0:Int)≤(IntKind.wrap .u64 b))<|
 ZA (((iop .shl .i64 1 (IntKind.wrap .u64 a)):Int)≠0)<|
 if (cop .neq (iop .rem .i64 d (iop .shl .i64 1 (IntKind.wrap .u64 a))) 0) then
 some (E0,6)
 else
 if (cop .gtr d (iop .shl .i64 1 (IntKind.wrap .u64 b))) then
 some (E0,6)
 else
 if (cop .gtr (iop .mul .i64 e (iop .shl .i64 1 (IntKind.wrap .u64 a))) (iop .sub .i64 (iop .shl .i64 1 (IntKind.wrap .u64 b)) d)) then
 some (E0,6)
 else
 if (cop .eql c 1) then
 if (cop .geq a b) then
 some (E0,6)
 else
 VF Zw c a l m d e g i b h j k f (cop .eql c 3) (iop .shl .i64 1 (IntKind.wrap .u64 a)) E0 0
 else
 VF Zw c a l m d e g i b h j k f (cop .eql c 3) (iop .shl .i64 1 (IntKind.wrap .u64 a)) E0 0):=by kernel_rfl
noncomputable def F55:Fn:=⟨49,[6,7],[],[],0,[],[],Tryz.f55,[.agg hs10,.agg [.int .i64,.int .i64,.int .i64],.agg hs16],[.agg hs10,.c (.int .i64)],[(93,F93.S),(94,F94.S),(90,F90.S),(58,F58.S),(56,F56.S)]⟩
theorem ZBH:F55.S.Ok Tryz.prog 55:=F55.ok Tryz.func55 (by kernel_rfl) ⟨ZsP,⟨ZuV,⟨Zzi,⟨Zxm,⟨ZzP,trivial⟩⟩⟩⟩⟩
noncomputable def g55 (a c d:Int) (e:LL) (f h j k m n:Int) (o:Bool) (p q r s t u v w x:Int) (y:Bool):Option (Qt17):=F55.S.g [.i a,.i c,.i d,.l e,.i f,.i h,.i j,.i k,.i m,.i n,.b o,.i p,.i q,.i r,.i s,.i t,.i u,.i v,.i w,.i x,.b y]
theorem Zt2 (a b c:Int) (d:LL) (o p q r s t:Int) (u:Bool) (e f g h i j k l m:Int) (n:Bool):g55 a b c d o p q r s t u e f g h i j k l m n =
 ((g93 a b c d o p q r s t u).bind fun w=>
 if (!w) then
 some (0,0,0,E0,0,0,0,0,0,0,false,1)
 else
 (g94 e f g).bind fun x=>
 if (!x) then
 some (0,0,0,E0,0,0,0,0,0,0,false,1)
 else
 (g90 h i j k l m n).bind fun y=>
 if (!y) then
 some (0,0,0,E0,0,0,0,0,0,0,false,1)
 else
 if ((cop .eql e a)&&((cop .eql f b)&&((cop .eql g c)&&true))) then
 some (0,0,0,E0,0,0,0,0,0,0,false,1)
 else
 (g58 d e f g).bind fun z=>
 if z then
 some (0,0,0,E0,0,0,0,0,0,0,false,1)
 else
 if (cop .eql (List.length d:Int) 8) then
 some (0,0,0,E0,0,0,0,0,0,0,false,9)
 else
 (g56 d).bind fun v=>
 ZA (Jy v (E0++[[AV.val (.int .i64 a),AV.val (.int .i64 b),AV.val (.int .i64 c)]]) 24)<|
 some (e,f,g,(v++(E0++[[AV.val (.int .i64 a),AV.val (.int .i64 b),AV.val (.int .i64 c)]])),h,i,j,k,l,m,n,0)):=by kernel_rfl
noncomputable def F20:Fn:=⟨146,[6],[(18,[(0,.c (.slice 13)),(2,.c (.int .i64)),(7,.c (.int .i64)),(8,.c (.int .i64)),(10,.box hs10),(11,.c (.slice 7)),(16,.c (.int .i64))])],[],0,[],[],Tryz.f20,[.c (.slice 13),.agg hs12,.c (.int .i64)],[.c (.slice 13)],[(8,F8.S),(50,F50.S),(51,F51.S),(52,F52.S),(53,F53.S),(54,F54.S),(55,F55.S)]⟩
theorem ZA8:F20.S.Ok Tryz.prog 20:=F20.ok Tryz.func20 (by kernel_rfl) ⟨ok8,⟨ZBk,⟨ZAS,⟨ZAG,⟨ZBT,⟨ZBW,⟨ZBH,trivial⟩⟩⟩⟩⟩⟩⟩
noncomputable def g20 (a:LL) (c:Bool) (d e f h j k m n:Int) (o:Bool) (p:Int):Option (LL):=F20.S.g [.l a,.b c,.i d,.i e,.i f,.i h,.i j,.i k,.i m,.i n,.b o,.i p]
noncomputable def Zhu (k:Nat) (a:LL) (c d e f g h:Int) (j:LL) (m n o p q r:Int) (s:Bool) (t:LL) (u:Int):Option (LL):=F20.lp [2,1,1,5,8,1,0,1,0] 0 r0 k [.l a,.i c,.i d,.i e,.i f,.i g,.i h,.l j,.i m,.i n,.i o,.i p,.i q,.i r,.b s,.l t,.i u]
theorem ZjM (k:Nat) (d:LL) (g e h i j l:Int) (m:LL) (n o p q r s:Int) (t:Bool) (f:LL) (c:Int):Zhu (k+1) d g e h i j l m n o p q r s t f c =
 (if (cop .lss c (List.length f:Int)) then
 Zl f c hs16 fun (b:Qt21)=>
 (g55 i j l m n o p q r s t e g c b.1 b.2.1 b.2.2.1 b.2.2.2.1 b.2.2.2.2.1 b.2.2.2.2.2.1 b.2.2.2.2.2.2).bind fun a=>
 if (cop .neq a.2.2.2.2.2.2.2.2.2.2.2 0) then
 some (d)
 else
 (g52 d e (iop .add .i64 h c) a.1 a.2.1 a.2.2.1 a.2.2.2.1 a.2.2.2.2.1 a.2.2.2.2.2.1 a.2.2.2.2.2.2.1 a.2.2.2.2.2.2.2.1 a.2.2.2.2.2.2.2.2.1 a.2.2.2.2.2.2.2.2.2.1 a.2.2.2.2.2.2.2.2.2.2.1).bind fun u=>
 Zhu k u g e h i j l m n o p q r s t f (iop .add .i64 c 1)
 else
 some (d)):=by kernel_rfl
theorem Zvv (c:LL) (o:Bool) (p q r s g h t j:Int) (u:Bool) (f:Int):g20 c o p q r s g h t j u f =
 ((g8 q 4).bind fun e=>
 (g8 r 8).bind fun i=>
 if o then
 (g50 g h).bind fun b=>
 (g51 c 0 0 0 (E0++[[AV.val (.int .i64 b.1),AV.val (.int .i64 b.2.1),AV.val (.int .i64 b.2.2.1),AV.val (.int .i64 b.2.2.2.1),AV.val (.int .i64 b.2.2.2.2.1),AV.val (.int .i64 b.2.2.2.2.2.1),AV.val (.bool b.2.2.2.2.2.2)]])).bind fun k=>
 if k then
 some (c)
 else
 (g52 c e i e f 0 E0 b.1 b.2.1 b.2.2.1 b.2.2.2.1 b.2.2.2.2.1 b.2.2.2.2.2.1 b.2.2.2.2.2.2).bind fun l=>
 some (l)
 else
 if (cop .eql (List.length c:Int) 0) then
 (g50 g h).bind fun b=>
 (g51 c 0 0 0 (E0++[[AV.val (.int .i64 b.1),AV.val (.int .i64 b.2.1),AV.val (.int .i64 b.2.2.1),AV.val (.int .i64 b.2.2.2.1),AV.val (.int .i64 b.2.2.2.2.1),AV.val (.int .i64 b.2.2.2.2.2.1),AV.val (.bool b.2.2.2.2.2.2)]])).bind fun k=>
 if k then
 some (c)
 else
 (g52 c e i e f 0 E0 b.1 b.2.1 b.2.2.1 b.2.2.2.1 b.2.2.2.2.1 b.2.2.2.2.2.1 b.2.2.2.2.2.2).bind fun l=>
 some (l)
 else
 (g8 p (List.length c:Int)).bind fun b=>
 Zl c b hs9 fun (a:Qt14)=>
 (g8 j 8).bind fun w=>
 (g53 a.2.2.2.2.2.2.1 a.2.2.2.2.2.2.2.1 a.2.2.2.2.2.2.2.2.1 a.2.2.2.2.2.2.2.2.2.1 a.2.2.2.2.2.2.2.2.2.2.1 a.2.2.2.2.2.2.2.2.2.2.2.1 (d4 (d8 a)) w).bind fun d=>
 if (!u) then
 (g8 s 6).bind fun v=>
 (g8 h 10).bind fun x=>
 Zl ((((((E0++[[AV.val (.int .i64 (iop .add .i64 6 x))]])++[[AV.val (.int .i64 12)]])++[[AV.val (.int .i64 12)]])++[[AV.val (.int .i64 6)]])++[[AV.val (.int .i64 10)]])++[[AV.val (.int .i64 16)]]) (iop .sub .i64 (iop .add .i64 1 v) 1) [.int .i64] fun (m:Int)=>
 (g8 j 2).bind fun y=>
 (g8 g 8).bind fun z=>
 ZA ((0:Int)≤(IntKind.wrap .u64 m))<|
 (g8 t 3).bind fun A=>
 (g54 a.2.2.2.2.2.2.1 a.2.2.2.2.2.2.2.1 a.2.2.2.2.2.2.2.2.1 a.2.2.2.2.2.2.2.2.2.1 a.2.2.2.2.2.2.2.2.2.2.1 a.2.2.2.2.2.2.2.2.2.2.2.1 (d4 (d8 a)) (iop .add .i64 1 v) m y 32 (iop .shl .i64 z (IntKind.wrap .u64 m)) (iop .add .i64 1 A)).bind fun n=>
 if (cop .neq n.2 0) then
 some (c)
 else
 (g51 c a.2.2.1 a.2.2.2.1 a.2.2.2.2.1 n.1).bind fun C=>
 if C then
 some (c)
 else
 Zhu Zw c f e i a.2.2.1 a.2.2.2.1 a.2.2.2.2.1 a.2.2.2.2.2.1 a.2.2.2.2.2.2.1 a.2.2.2.2.2.2.2.1 a.2.2.2.2.2.2.2.2.1 a.2.2.2.2.2.2.2.2.2.1 a.2.2.2.2.2.2.2.2.2.2.1 a.2.2.2.2.2.2.2.2.2.2.2.1 (d4 (d8 a)) n.1 0
 else
 Zhu Zw c f e i a.2.2.1 a.2.2.2.1 a.2.2.2.2.1 a.2.2.2.2.2.1 a.2.2.2.2.2.2.1 a.2.2.2.2.2.2.2.1 a.2.2.2.2.2.2.2.2.1 a.2.2.2.2.2.2.2.2.2.1 a.2.2.2.2.2.2.2.2.2.2.1 a.2.2.2.2.2.2.2.2.2.2.2.1 (d4 (d8 a)) (E0++[[AV.val (.int .i64 d.1),AV.val (.int .i64 d.2.1),AV.val (.int .i64 d.2.2.1),AV.val (.int .i64 d.2.2.2.1),AV.val (.int .i64 d.2.2.2.2.1),AV.val (.int .i64 d.2.2.2.2.2.1),AV.val (.bool d.2.2.2.2.2.2)]]) 0):=by kernel_rfl
noncomputable def F7:Fn:=⟨29,[2],[(3,[(0,.c (.slice 10)),(3,.c (.slice 13)),(4,.c (.int .i64))])],[],0,[],[],Tryz.f7,[.c (.slice 10)],[.c (.slice 13)],[(20,F20.S)]⟩
theorem ok7:F7.S.Ok Tryz.prog 7:=F7.ok Tryz.func7 (by kernel_rfl) ⟨ZA8,trivial⟩
noncomputable def g7 (a:LL):Option (LL):=F7.S.g [.l a]
noncomputable def ZwV (k:Nat) (a b:LL) (c:Int):Option (LL):=F7.lp [0] 0 r0 k [.l a,.l b,.i c]
theorem Zm4 (k:Nat) (d b:LL) (c:Int):ZwV (k+1) d b c =
 (if (cop .lss c (List.length d:Int)) then
 if (cop .lss c 40) then
 if (cop .lss (List.length b:Int) 24) then
 Zl d c hs12 fun (a:Bool×Int×Int×Int×Int×Int×Int×Int×Int×Bool)=>
 (g20 b a.1 a.2.1 a.2.2.1 a.2.2.2.1 a.2.2.2.2.1 a.2.2.2.2.2.1 a.2.2.2.2.2.2.1 a.2.2.2.2.2.2.2.1 a.2.2.2.2.2.2.2.2.1 a.2.2.2.2.2.2.2.2.2 (iop .add .i64 c 1)).bind fun e=>
 ZwV k d e (iop .add .i64 c 1)
 else
 some (b)
 else
 some (b)
 else
 some (b)):=by kernel_rfl
theorem Zx6 (a:LL):g7 a =
 (ZwV Zw a E0 0):=by kernel_rfl
noncomputable def F3:Fn:=⟨111,[14],[],[],0,[],[],Tryz.f3,[.c (.int .i64),.c (.slice 15),.c (.slice 28),.agg hs0,.c (.slice 1),.c (.slice 10),.c (.int .i64)],[.c (.bool)],[(5,F5.S),(6,F6.S),(7,F7.S),(8,F8.S),(9,F9.S),(10,F10.S),(11,F11.S)]⟩
theorem ok3:F3.S.Ok Tryz.prog 3:=F3.ok Tryz.func3 (by kernel_rfl) ⟨ok5,⟨ok6,⟨ok7,⟨ok8,⟨ok9,⟨ZBb,⟨ZAV,trivial⟩⟩⟩⟩⟩⟩⟩
noncomputable def g3 (a:Int) (c d:LL) (e f h j k m n o p q r:Int) (s:Bool) (t u v w x y z A C D E G H J K L M N O P:Int) (Q:LL) (R T U V W X:Int) (Y:Bool) (Z aa ab ac:LL) (ad ae:Int) (af ag ah ai aj ak al am:LL) (an ao:Int) (ap aq ar aZ au av aw ax:LL) (ay:Bool) (az:Int) (a0 a1 a2 a3 a4 a5 a6 a7 a8 a9:LL) (ba:Int):Option (Bool):=F3.S.g [.i a,.l c,.l d,.i e,.i f,.i h,.i j,.i k,.i m,.i n,.i o,.i p,.i q,.i r,.b s,.i t,.i u,.i v,.i w,.i x,.i y,.i z,.i A,.i C,.i D,.i E,.i G,.i H,.i J,.i K,.i L,.i M,.i N,.i O,.i P,.l Q,.i R,.i T,.i U,.i V,.i W,.i X,.b Y,.l Z,.l aa,.l ab,.l ac,.i ad,.i ae,.l af,.l ag,.l ah,.l ai,.l aj,.l ak,.l al,.l am,.i an,.i ao,.l ap,.l aq,.l ar,.l aZ,.l au,.l av,.l aw,.l ax,.b ay,.i az,.l a0,.l a1,.l a2,.l a3,.l a4,.l a5,.l a6,.l a7,.l a8,.l a9,.i ba]
theorem ZzG (f:Int) (g h:LL) (m n o p q r s t u v w:Int) (x:Bool) (y z A C D E G H J K L M O P Q R T U V W:Int) (X:LL) (Y Z aa ab ac ad:Int) (ae:Bool) (i j af ag:LL) (ah ai:Int) (aj ak k al am an ao ap:LL) (aq ar:Int) (aZ au l av aw ax ay az:LL) (a0:Bool) (a1:Int) (a2 a3 a4 a5 a6 a7 a8 a9 ba bh:LL) (bc:Int):g3 f g h m n o p q r s t u v w x y z A C D E G H J K L M O P Q R T U V W X Y Z aa ab ac ad ae i j af ag ah ai aj ak k al am an ao ap aq ar aZ au l av aw ax ay az a0 a1 a2 a3 a4 a5 a6 a7 a8 a9 ba bh bc =
 ((g5 g h).bind fun bi=>
 if (!bi) then
 (g6).bind fun d=>
 some (d)
 else
 if (cop .gtr (List.length j:Int) 10) then
 (g6).bind fun d=>
 some (d)
 else
 if (cop .gtr (List.length i:Int) 70) then
 (g6).bind fun d=>
 some (d)
 else
 if (cop .gtr (List.length k:Int) 10) then
 (g6).bind fun d=>
 some (d)
 else
 if (cop .gtr (List.length l:Int) 10) then
 (g6).bind fun d=>
 some (d)
 else
 if (cop .gtr (List.length ba:Int) 60) then
 (g6).bind fun d=>
 some (d)
 else
 (g7 bh).bind fun d=>
 (g8 f 4).bind fun bb=>
 (g9 ba d bb).bind fun c=>
 (g10 1 ba d).bind fun b=>
 (g8 bc 6).bind fun bj=>
 if (cop .eql bj 0) then
 (g10 bc ba d).bind fun a=>
 if (cop .gtr (List.length c.2.1:Int) 0) then
 if (cop .eql a.1 2) then
 Zl c.2.1 0 hs3 fun (e:Qt7)=>
 (g11 f g h m n o p q r s t u v w x y z A C D E G H J K L M O P Q R T U V W X Y Z aa ab ac ad ae i j af ag ah ai aj ak k al am an ao ap aq ar aZ au l av aw ax ay az a0 a1 a2 a3 a4 a5 a6 a7 a8 a9).bind fun bk=>
 if bk then
 (g11 e.1 c.1 c.2.1 a.1 a.2.1 a.2.2.1 e.1 a.2.2.2.2.1 a.2.2.2.2.2.1 a.2.2.2.2.2.2.1 e.1 e.2.1 e.2.2.1 a.2.2.2.2.2.2.2.2.2.2.1 a.2.2.2.2.2.2.2.2.2.2.2.1 (d4 (d8 a)).1 (d4 (d8 a)).2.1 (d2 (d4 (d8 a))).1 (d2 (d4 (d8 a))).2.1 (d16 a).1 (d16 a).2.1 (d2 (d16 a)).1 (d2 (d16 a)).2.1 (d4 (d16 a)).1 (d4 (d16 a)).2.1 (d2 (d4 (d16 a))).1 (d2 (d4 (d16 a))).2.1 (d8 (d16 a)).1 (d8 (d16 a)).2.1 (d2 (d8 (d16 a))).1 (d2 (d8 (d16 a))).2.1 (d4 (d8 (d16 a))).1 (d4 (d8 (d16 a))).2.1 (d2 (d4 (d8 (d16 a)))).1 (d2 (d4 (d8 (d16 a)))).2.1 (d16 (d16 a)).1 (d16 (d16 a)).2.1 (d2 (d16 (d16 a))).1 (d2 (d16 (d16 a))).2.1 (d4 (d16 (d16 a))).1 (d4 (d16 (d16 a))).2.1 (d2 (d4 (d16 (d16 a)))).1 (d2 (d4 (d16 (d16 a)))).2.1 (d8 (d16 (d16 a))).1 (d8 (d16 (d16 a))).2.1 (d2 (d8 (d16 (d16 a)))).1 (d2 (d8 (d16 (d16 a)))).2.1 (d4 (d8 (d16 (d16 a)))).1 (d4 (d8 (d16 (d16 a)))).2.1 (d2 (d4 (d8 (d16 (d16 a))))).1 (d2 (d4 (d8 (d16 (d16 a))))).2.1 (d16 (d16 (d16 a))).1 (d16 (d16 (d16 a))).2.1 (d2 (d16 (d16 (d16 a)))).1 (d2 (d16 (d16 (d16 a)))).2.1 (d4 (d16 (d16 (d16 a)))).1 (d4 (d16 (d16 (d16 a)))).2.1 (d2 (d4 (d16 (d16 (d16 a))))).1 (d2 (d4 (d16 (d16 (d16 a))))).2.1 (d8 (d16 (d16 (d16 a)))).1 (d8 (d16 (d16 (d16 a)))).2.1 (d2 (d8 (d16 (d16 (d16 a))))).1 (d2 (d8 (d16 (d16 (d16 a))))).2.1 (d4 (d8 (d16 (d16 (d16 a))))).1 (d4 (d8 (d16 (d16 (d16 a))))).2.1 (d2 (d4 (d8 (d16 (d16 (d16 a)))))).1 (d2 (d4 (d8 (d16 (d16 (d16 a)))))).2.1 (d16 (d16 (d16 (d16 a)))).1 (d16 (d16 (d16 (d16 a)))).2.1 (d2 (d16 (d16 (d16 (d16 a))))).1 (d2 (d16 (d16 (d16 (d16 a))))).2.1 (d4 (d16 (d16 (d16 (d16 a))))).1 (d4 (d16 (d16 (d16 (d16 a))))).2.1 (d2 (d4 (d16 (d16 (d16 (d16 a)))))).1 (d2 (d4 (d16 (d16 (d16 (d16 a)))))).2.1 (d8 (d16 (d16 (d16 (d16 a))))).1 (d8 (d16 (d16 (d16 (d16 a))))).2).bind fun bl=>
 if bl then
 (g6).bind fun bm=>
 some (bm)
 else
 some (false)
 else
 some (false)
 else
 (g11 f g h m n o p q r s t u v w x y z A C D E G H J K L M O P Q R T U V W X Y Z aa ab ac ad ae i j af ag ah ai aj ak k al am an ao ap aq ar aZ au l av aw ax ay az a0 a1 a2 a3 a4 a5 a6 a7 a8 a9).bind fun e=>
 if e then
 (g11 bb c.1 c.2.1 a.1 a.2.1 a.2.2.1 a.2.2.2.1 a.2.2.2.2.1 a.2.2.2.2.2.1 a.2.2.2.2.2.2.1 a.2.2.2.2.2.2.2.1 a.2.2.2.2.2.2.2.2.1 a.2.2.2.2.2.2.2.2.2.1 a.2.2.2.2.2.2.2.2.2.2.1 a.2.2.2.2.2.2.2.2.2.2.2.1 (d4 (d8 a)).1 (d4 (d8 a)).2.1 (d2 (d4 (d8 a))).1 (d2 (d4 (d8 a))).2.1 (d16 a).1 (d16 a).2.1 (d2 (d16 a)).1 (d2 (d16 a)).2.1 (d4 (d16 a)).1 (d4 (d16 a)).2.1 (d2 (d4 (d16 a))).1 (d2 (d4 (d16 a))).2.1 (d8 (d16 a)).1 (d8 (d16 a)).2.1 (d2 (d8 (d16 a))).1 (d2 (d8 (d16 a))).2.1 (d4 (d8 (d16 a))).1 (d4 (d8 (d16 a))).2.1 (d2 (d4 (d8 (d16 a)))).1 (d2 (d4 (d8 (d16 a)))).2.1 (d16 (d16 a)).1 (d16 (d16 a)).2.1 (d2 (d16 (d16 a))).1 (d2 (d16 (d16 a))).2.1 (d4 (d16 (d16 a))).1 (d4 (d16 (d16 a))).2.1 (d2 (d4 (d16 (d16 a)))).1 (d2 (d4 (d16 (d16 a)))).2.1 (d8 (d16 (d16 a))).1 (d8 (d16 (d16 a))).2.1 (d2 (d8 (d16 (d16 a)))).1 (d2 (d8 (d16 (d16 a)))).2.1 (d4 (d8 (d16 (d16 a)))).1 (d4 (d8 (d16 (d16 a)))).2.1 (d2 (d4 (d8 (d16 (d16 a))))).1 (d2 (d4 (d8 (d16 (d16 a))))).2.1 (d16 (d16 (d16 a))).1 (d16 (d16 (d16 a))).2.1 (d2 (d16 (d16 (d16 a)))).1 (d2 (d16 (d16 (d16 a)))).2.1 (d4 (d16 (d16 (d16 a)))).1 (d4 (d16 (d16 (d16 a)))).2.1 (d2 (d4 (d16 (d16 (d16 a))))).1 (d2 (d4 (d16 (d16 (d16 a))))).2.1 (d8 (d16 (d16 (d16 a)))).1 (d8 (d16 (d16 (d16 a)))).2.1 (d2 (d8 (d16 (d16 (d16 a))))).1 (d2 (d8 (d16 (d16 (d16 a))))).2.1 (d4 (d8 (d16 (d16 (d16 a))))).1 (d4 (d8 (d16 (d16 (d16 a))))).2.1 (d2 (d4 (d8 (d16 (d16 (d16 a)))))).1 (d2 (d4 (d8 (d16 (d16 (d16 a)))))).2.1 (d16 (d16 (d16 (d16 a)))).1 (d16 (d16 (d16 (d16 a)))).2.1 (d2 (d16 (d16 (d16 (d16 a))))).1 (d2 (d16 (d16 (d16 (d16 a))))).2.1 (d4 (d16 (d16 (d16 (d16 a))))).1 (d4 (d16 (d16 (d16 (d16 a))))).2.1 (d2 (d4 (d16 (d16 (d16 (d16 a)))))).1 (d2 (d4 (d16 (d16 (d16 (d16 a)))))).2.1 (d8 (d16 (d16 (d16 (d16 a))))).1 (d8 (d16 (d16 (d16 (d16 a))))).2).bind fun bd=>
 if bd then
 (g6).bind fun be=>
 some (be)
 else
 some (false)
 else
 some (false)
 else
 (g11 f g h m n o p q r s t u v w x y z A C D E G H J K L M O P Q R T U V W X Y Z aa ab ac ad ae i j af ag ah ai aj ak k al am an ao ap aq ar aZ au l av aw ax ay az a0 a1 a2 a3 a4 a5 a6 a7 a8 a9).bind fun e=>
 if e then
 (g11 bb c.1 c.2.1 a.1 a.2.1 a.2.2.1 a.2.2.2.1 a.2.2.2.2.1 a.2.2.2.2.2.1 a.2.2.2.2.2.2.1 a.2.2.2.2.2.2.2.1 a.2.2.2.2.2.2.2.2.1 a.2.2.2.2.2.2.2.2.2.1 a.2.2.2.2.2.2.2.2.2.2.1 a.2.2.2.2.2.2.2.2.2.2.2.1 (d4 (d8 a)).1 (d4 (d8 a)).2.1 (d2 (d4 (d8 a))).1 (d2 (d4 (d8 a))).2.1 (d16 a).1 (d16 a).2.1 (d2 (d16 a)).1 (d2 (d16 a)).2.1 (d4 (d16 a)).1 (d4 (d16 a)).2.1 (d2 (d4 (d16 a))).1 (d2 (d4 (d16 a))).2.1 (d8 (d16 a)).1 (d8 (d16 a)).2.1 (d2 (d8 (d16 a))).1 (d2 (d8 (d16 a))).2.1 (d4 (d8 (d16 a))).1 (d4 (d8 (d16 a))).2.1 (d2 (d4 (d8 (d16 a)))).1 (d2 (d4 (d8 (d16 a)))).2.1 (d16 (d16 a)).1 (d16 (d16 a)).2.1 (d2 (d16 (d16 a))).1 (d2 (d16 (d16 a))).2.1 (d4 (d16 (d16 a))).1 (d4 (d16 (d16 a))).2.1 (d2 (d4 (d16 (d16 a)))).1 (d2 (d4 (d16 (d16 a)))).2.1 (d8 (d16 (d16 a))).1 (d8 (d16 (d16 a))).2.1 (d2 (d8 (d16 (d16 a)))).1 (d2 (d8 (d16 (d16 a)))).2.1 (d4 (d8 (d16 (d16 a)))).1 (d4 (d8 (d16 (d16 a)))).2.1 (d2 (d4 (d8 (d16 (d16 a))))).1 (d2 (d4 (d8 (d16 (d16 a))))).2.1 (d16 (d16 (d16 a))).1 (d16 (d16 (d16 a))).2.1 (d2 (d16 (d16 (d16 a)))).1 (d2 (d16 (d16 (d16 a)))).2.1 (d4 (d16 (d16 (d16 a)))).1 (d4 (d16 (d16 (d16 a)))).2.1 (d2 (d4 (d16 (d16 (d16 a))))).1 (d2 (d4 (d16 (d16 (d16 a))))).2.1 (d8 (d16 (d16 (d16 a)))).1 (d8 (d16 (d16 (d16 a)))).2.1 (d2 (d8 (d16 (d16 (d16 a))))).1 (d2 (d8 (d16 (d16 (d16 a))))).2.1 (d4 (d8 (d16 (d16 (d16 a))))).1 (d4 (d8 (d16 (d16 (d16 a))))).2.1 (d2 (d4 (d8 (d16 (d16 (d16 a)))))).1 (d2 (d4 (d8 (d16 (d16 (d16 a)))))).2.1 (d16 (d16 (d16 (d16 a)))).1 (d16 (d16 (d16 (d16 a)))).2.1 (d2 (d16 (d16 (d16 (d16 a))))).1 (d2 (d16 (d16 (d16 (d16 a))))).2.1 (d4 (d16 (d16 (d16 (d16 a))))).1 (d4 (d16 (d16 (d16 (d16 a))))).2.1 (d2 (d4 (d16 (d16 (d16 (d16 a)))))).1 (d2 (d4 (d16 (d16 (d16 (d16 a)))))).2.1 (d8 (d16 (d16 (d16 (d16 a))))).1 (d8 (d16 (d16 (d16 (d16 a))))).2).bind fun bd=>
 if bd then
 (g6).bind fun be=>
 some (be)
 else
 some (false)
 else
 some (false)
 else
 if (cop .gtr (List.length c.2.1:Int) 0) then
 if (cop .eql b.1 2) then
 Zl c.2.1 0 hs3 fun (a:Qt7)=>
 (g11 f g h m n o p q r s t u v w x y z A C D E G H J K L M O P Q R T U V W X Y Z aa ab ac ad ae i j af ag ah ai aj ak k al am an ao ap aq ar aZ au l av aw ax ay az a0 a1 a2 a3 a4 a5 a6 a7 a8 a9).bind fun bn=>
 if bn then
 (g11 a.1 c.1 c.2.1 b.1 b.2.1 b.2.2.1 a.1 b.2.2.2.2.1 b.2.2.2.2.2.1 b.2.2.2.2.2.2.1 a.1 a.2.1 a.2.2.1 b.2.2.2.2.2.2.2.2.2.2.1 b.2.2.2.2.2.2.2.2.2.2.2.1 (d4 (d8 b)).1 (d4 (d8 b)).2.1 (d2 (d4 (d8 b))).1 (d2 (d4 (d8 b))).2.1 (d16 b).1 (d16 b).2.1 (d2 (d16 b)).1 (d2 (d16 b)).2.1 (d4 (d16 b)).1 (d4 (d16 b)).2.1 (d2 (d4 (d16 b))).1 (d2 (d4 (d16 b))).2.1 (d8 (d16 b)).1 (d8 (d16 b)).2.1 (d2 (d8 (d16 b))).1 (d2 (d8 (d16 b))).2.1 (d4 (d8 (d16 b))).1 (d4 (d8 (d16 b))).2.1 (d2 (d4 (d8 (d16 b)))).1 (d2 (d4 (d8 (d16 b)))).2.1 (d16 (d16 b)).1 (d16 (d16 b)).2.1 (d2 (d16 (d16 b))).1 (d2 (d16 (d16 b))).2.1 (d4 (d16 (d16 b))).1 (d4 (d16 (d16 b))).2.1 (d2 (d4 (d16 (d16 b)))).1 (d2 (d4 (d16 (d16 b)))).2.1 (d8 (d16 (d16 b))).1 (d8 (d16 (d16 b))).2.1 (d2 (d8 (d16 (d16 b)))).1 (d2 (d8 (d16 (d16 b)))).2.1 (d4 (d8 (d16 (d16 b)))).1 (d4 (d8 (d16 (d16 b)))).2.1 (d2 (d4 (d8 (d16 (d16 b))))).1 (d2 (d4 (d8 (d16 (d16 b))))).2.1 (d16 (d16 (d16 b))).1 (d16 (d16 (d16 b))).2.1 (d2 (d16 (d16 (d16 b)))).1 (d2 (d16 (d16 (d16 b)))).2.1 (d4 (d16 (d16 (d16 b)))).1 (d4 (d16 (d16 (d16 b)))).2.1 (d2 (d4 (d16 (d16 (d16 b))))).1 (d2 (d4 (d16 (d16 (d16 b))))).2.1 (d8 (d16 (d16 (d16 b)))).1 (d8 (d16 (d16 (d16 b)))).2.1 (d2 (d8 (d16 (d16 (d16 b))))).1 (d2 (d8 (d16 (d16 (d16 b))))).2.1 (d4 (d8 (d16 (d16 (d16 b))))).1 (d4 (d8 (d16 (d16 (d16 b))))).2.1 (d2 (d4 (d8 (d16 (d16 (d16 b)))))).1 (d2 (d4 (d8 (d16 (d16 (d16 b)))))).2.1 (d16 (d16 (d16 (d16 b)))).1 (d16 (d16 (d16 (d16 b)))).2.1 (d2 (d16 (d16 (d16 (d16 b))))).1 (d2 (d16 (d16 (d16 (d16 b))))).2.1 (d4 (d16 (d16 (d16 (d16 b))))).1 (d4 (d16 (d16 (d16 (d16 b))))).2.1 (d2 (d4 (d16 (d16 (d16 (d16 b)))))).1 (d2 (d4 (d16 (d16 (d16 (d16 b)))))).2.1 (d8 (d16 (d16 (d16 (d16 b))))).1 (d8 (d16 (d16 (d16 (d16 b))))).2).bind fun bo=>
 if bo then
 (g6).bind fun bp=>
 some (bp)
 else
 some (false)
 else
 some (false)
 else
 (g11 f g h m n o p q r s t u v w x y z A C D E G H J K L M O P Q R T U V W X Y Z aa ab ac ad ae i j af ag ah ai aj ak k al am an ao ap aq ar aZ au l av aw ax ay az a0 a1 a2 a3 a4 a5 a6 a7 a8 a9).bind fun a=>
 if a then
 (g11 bb c.1 c.2.1 b.1 b.2.1 b.2.2.1 b.2.2.2.1 b.2.2.2.2.1 b.2.2.2.2.2.1 b.2.2.2.2.2.2.1 b.2.2.2.2.2.2.2.1 b.2.2.2.2.2.2.2.2.1 b.2.2.2.2.2.2.2.2.2.1 b.2.2.2.2.2.2.2.2.2.2.1 b.2.2.2.2.2.2.2.2.2.2.2.1 (d4 (d8 b)).1 (d4 (d8 b)).2.1 (d2 (d4 (d8 b))).1 (d2 (d4 (d8 b))).2.1 (d16 b).1 (d16 b).2.1 (d2 (d16 b)).1 (d2 (d16 b)).2.1 (d4 (d16 b)).1 (d4 (d16 b)).2.1 (d2 (d4 (d16 b))).1 (d2 (d4 (d16 b))).2.1 (d8 (d16 b)).1 (d8 (d16 b)).2.1 (d2 (d8 (d16 b))).1 (d2 (d8 (d16 b))).2.1 (d4 (d8 (d16 b))).1 (d4 (d8 (d16 b))).2.1 (d2 (d4 (d8 (d16 b)))).1 (d2 (d4 (d8 (d16 b)))).2.1 (d16 (d16 b)).1 (d16 (d16 b)).2.1 (d2 (d16 (d16 b))).1 (d2 (d16 (d16 b))).2.1 (d4 (d16 (d16 b))).1 (d4 (d16 (d16 b))).2.1 (d2 (d4 (d16 (d16 b)))).1 (d2 (d4 (d16 (d16 b)))).2.1 (d8 (d16 (d16 b))).1 (d8 (d16 (d16 b))).2.1 (d2 (d8 (d16 (d16 b)))).1 (d2 (d8 (d16 (d16 b)))).2.1 (d4 (d8 (d16 (d16 b)))).1 (d4 (d8 (d16 (d16 b)))).2.1 (d2 (d4 (d8 (d16 (d16 b))))).1 (d2 (d4 (d8 (d16 (d16 b))))).2.1 (d16 (d16 (d16 b))).1 (d16 (d16 (d16 b))).2.1 (d2 (d16 (d16 (d16 b)))).1 (d2 (d16 (d16 (d16 b)))).2.1 (d4 (d16 (d16 (d16 b)))).1 (d4 (d16 (d16 (d16 b)))).2.1 (d2 (d4 (d16 (d16 (d16 b))))).1 (d2 (d4 (d16 (d16 (d16 b))))).2.1 (d8 (d16 (d16 (d16 b)))).1 (d8 (d16 (d16 (d16 b)))).2.1 (d2 (d8 (d16 (d16 (d16 b))))).1 (d2 (d8 (d16 (d16 (d16 b))))).2.1 (d4 (d8 (d16 (d16 (d16 b))))).1 (d4 (d8 (d16 (d16 (d16 b))))).2.1 (d2 (d4 (d8 (d16 (d16 (d16 b)))))).1 (d2 (d4 (d8 (d16 (d16 (d16 b)))))).2.1 (d16 (d16 (d16 (d16 b)))).1 (d16 (d16 (d16 (d16 b)))).2.1 (d2 (d16 (d16 (d16 (d16 b))))).1 (d2 (d16 (d16 (d16 (d16 b))))).2.1 (d4 (d16 (d16 (d16 (d16 b))))).1 (d4 (d16 (d16 (d16 (d16 b))))).2.1 (d2 (d4 (d16 (d16 (d16 (d16 b)))))).1 (d2 (d4 (d16 (d16 (d16 (d16 b)))))).2.1 (d8 (d16 (d16 (d16 (d16 b))))).1 (d8 (d16 (d16 (d16 (d16 b))))).2).bind fun bf=>
 if bf then
 (g6).bind fun bg=>
 some (bg)
 else
 some (false)
 else
 some (false)
 else
 (g11 f g h m n o p q r s t u v w x y z A C D E G H J K L M O P Q R T U V W X Y Z aa ab ac ad ae i j af ag ah ai aj ak k al am an ao ap aq ar aZ au l av aw ax ay az a0 a1 a2 a3 a4 a5 a6 a7 a8 a9).bind fun a=>
 if a then
 (g11 bb c.1 c.2.1 b.1 b.2.1 b.2.2.1 b.2.2.2.1 b.2.2.2.2.1 b.2.2.2.2.2.1 b.2.2.2.2.2.2.1 b.2.2.2.2.2.2.2.1 b.2.2.2.2.2.2.2.2.1 b.2.2.2.2.2.2.2.2.2.1 b.2.2.2.2.2.2.2.2.2.2.1 b.2.2.2.2.2.2.2.2.2.2.2.1 (d4 (d8 b)).1 (d4 (d8 b)).2.1 (d2 (d4 (d8 b))).1 (d2 (d4 (d8 b))).2.1 (d16 b).1 (d16 b).2.1 (d2 (d16 b)).1 (d2 (d16 b)).2.1 (d4 (d16 b)).1 (d4 (d16 b)).2.1 (d2 (d4 (d16 b))).1 (d2 (d4 (d16 b))).2.1 (d8 (d16 b)).1 (d8 (d16 b)).2.1 (d2 (d8 (d16 b))).1 (d2 (d8 (d16 b))).2.1 (d4 (d8 (d16 b))).1 (d4 (d8 (d16 b))).2.1 (d2 (d4 (d8 (d16 b)))).1 (d2 (d4 (d8 (d16 b)))).2.1 (d16 (d16 b)).1 (d16 (d16 b)).2.1 (d2 (d16 (d16 b))).1 (d2 (d16 (d16 b))).2.1 (d4 (d16 (d16 b))).1 (d4 (d16 (d16 b))).2.1 (d2 (d4 (d16 (d16 b)))).1 (d2 (d4 (d16 (d16 b)))).2.1 (d8 (d16 (d16 b))).1 (d8 (d16 (d16 b))).2.1 (d2 (d8 (d16 (d16 b)))).1 (d2 (d8 (d16 (d16 b)))).2.1 (d4 (d8 (d16 (d16 b)))).1 (d4 (d8 (d16 (d16 b)))).2.1 (d2 (d4 (d8 (d16 (d16 b))))).1 (d2 (d4 (d8 (d16 (d16 b))))).2.1 (d16 (d16 (d16 b))).1 (d16 (d16 (d16 b))).2.1 (d2 (d16 (d16 (d16 b)))).1 (d2 (d16 (d16 (d16 b)))).2.1 (d4 (d16 (d16 (d16 b)))).1 (d4 (d16 (d16 (d16 b)))).2.1 (d2 (d4 (d16 (d16 (d16 b))))).1 (d2 (d4 (d16 (d16 (d16 b))))).2.1 (d8 (d16 (d16 (d16 b)))).1 (d8 (d16 (d16 (d16 b)))).2.1 (d2 (d8 (d16 (d16 (d16 b))))).1 (d2 (d8 (d16 (d16 (d16 b))))).2.1 (d4 (d8 (d16 (d16 (d16 b))))).1 (d4 (d8 (d16 (d16 (d16 b))))).2.1 (d2 (d4 (d8 (d16 (d16 (d16 b)))))).1 (d2 (d4 (d8 (d16 (d16 (d16 b)))))).2.1 (d16 (d16 (d16 (d16 b)))).1 (d16 (d16 (d16 (d16 b)))).2.1 (d2 (d16 (d16 (d16 (d16 b))))).1 (d2 (d16 (d16 (d16 (d16 b))))).2.1 (d4 (d16 (d16 (d16 (d16 b))))).1 (d4 (d16 (d16 (d16 (d16 b))))).2.1 (d2 (d4 (d16 (d16 (d16 (d16 b)))))).1 (d2 (d4 (d16 (d16 (d16 (d16 b)))))).2.1 (d8 (d16 (d16 (d16 (d16 b))))).1 (d8 (d16 (d16 (d16 (d16 b))))).2).bind fun bf=>
 if bf then
 (g6).bind fun bg=>
 some (bg)
 else
 some (false)
 else
 some (false)):=by kernel_rfl
end Go.Proofs.YthdihcchfjlgkaaGreat
