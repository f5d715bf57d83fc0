/- Functions of the program, as what they compute. -/
import Derived.Test.YtjldbnbdcmfbmaaGreatF8a
namespace Go.Proofs.YtjldbnbdcmfbmaaGreat
open Go Go.AM
set_option linter.unusedVariables false
set_option maxRecDepth 100000
noncomputable def Zpt:Fn:=⟨50,[4],[(3,[(0,.c (.slice 1)),(1,.c (.int .u64)),(5,.c (.int .i64)),(6,.c (.int .u64))]),(9,[(0,.c (.slice 1)),(1,.c (.int .u64)),(5,.c (.int .i64)),(7,.c (.own true 5)),(8,.c (.int .i64))])],[],0,[],[(16,[(7,0)])],Tryz.f113,[.c (.slice 1),.c (.int .u64)],[.c (.own false 5)],[]⟩
theorem ZoO:Zpt.S.Ok Tryz.prog 113:=Zpt.ok Tryz.func113 (by kernel_rfl) trivial
noncomputable def Zsu (a:LL) (b:Int):Option (LL):=Zpt.S.g [.l a,.i b]
noncomputable def ZcO (k:Nat) (a:LL) (b c:Int) (d:LL) (e:Int):Option (LL):=Zpt.lp [2,1,4] 0 r0 k [.l a,.i b,.i c,.l d,.i e]
theorem ZgI (k:Nat) (b:LL) (d e:Int) (c:LL) (a:Int):ZcO (k+1) b d e c a =
 (if (cop .lss a e) then
 if (cop .lss a (iop .sub .i64 e 1)) then
 ZA ((0:Int)≤(iop .add .i64 (List.length b:Int) a))<|
 ZA (((iop .add .i64 (List.length b:Int) a):Int) < (List.length c:Int))<|
 ZA ((0:Int)≤(iop .add .i64 (List.length b:Int) a))<|
 ZA (((iop .add .i64 (List.length b:Int) a):Int) < (List.length c:Int))<|
 ZA ((0:Int)≤7)<|
 ZcO k b (iop .shr .u64 d 7) e (Z0 c (Int.toNat (iop .add .i64 (List.length b:Int) a)) 0 [AV.val (.int .u8 (iop .or .u8 (IntKind.wrap .u8 (iop .and .u64 d 127)) 128))]) (iop .add .i64 a 1)
 else
 ZA ((0:Int)≤(iop .add .i64 (List.length b:Int) a))<|
 ZA (((iop .add .i64 (List.length b:Int) a):Int) < (List.length c:Int))<|
 ZA ((0:Int)≤(iop .add .i64 (List.length b:Int) a))<|
 ZA (((iop .add .i64 (List.length b:Int) a):Int) < (List.length c:Int))<|
 ZA ((0:Int)≤7)<|
 ZcO k b (iop .shr .u64 d 7) e (Z0 c (Int.toNat (iop .add .i64 (List.length b:Int) a)) 0 [AV.val (.int .u8 (IntKind.wrap .u8 (iop .and .u64 d 127)))]) (iop .add .i64 a 1)
 else
 some (c)):=by kernel_rfl
noncomputable def Zgt (k:Nat) (a:LL) (b c d:Int):Option (LL):=Zpt.lp [2] 0 r0 k [.l a,.i b,.i c,.i d]
theorem Zgq (k:Nat) (a:LL) (c b d:Int):Zgt (k+1) a c b d =
 (if (cop .gtr d 0) then
 ZA ((0:Int)≤7)<|
 Zgt k a c (iop .add .i64 b 1) (iop .shr .u64 d 7)
 else
 ZA (ZrM (iop .add .i64 (List.length a:Int) b) 1)<|
 ZA (((iop .add .i64 (List.length a:Int) b):Int)≤(iop .add .i64 (List.length a:Int) b))<|
 ZA (((iop .add .i64 (List.length a:Int) b):Int)≤(iop .add .i64 (List.length a:Int) b))<|
 ZcO ZE a c b (ZkE (List.replicate (Int.toNat (iop .add .i64 (List.length a:Int) b)) [AV.val (.int .u8 0)]) a) 0):=by kernel_rfl
theorem Zsm (b:LL) (a:Int):Zsu b a =
 (ZA ((0:Int)≤7)<|
 Zgt ZE b a 1 (iop .shr .u64 a 7)):=by kernel_rfl
noncomputable def F38:Fn:=⟨14,[],[],[0],0,[],[],Tryz.f38,[.box [.own false 5],.c (.int .i64)],[],[(113,Zpt.S)]⟩
theorem Zlr:F38.S.Ok Tryz.prog 38:=F38.ok Tryz.func38 (by kernel_rfl) ⟨ZoO,trivial⟩
noncomputable def g38 (a:LL) (b:Int):Option (LL):=F38.S.g [.l a,.i b]
theorem Zus (a:LL) (b:Int):g38 a b =
 ((Zsu a (IntKind.wrap .u64 b)).bind fun c=>
 some (c)):=by kernel_rfl
noncomputable def Zs6:Fn:=⟨25,[4],[(2,[(0,.c (.own false 5)),(13,.c (.slice 1)),(14,.c (.int .i64)),(15,.c (.int .i64))])],[],0,[],[],Tryz.f181,[.c (.own false 5),.agg [.int .i64,.int .i64,.int .i64]],[.c (.own false 5)],[(113,Zpt.S)]⟩
theorem Zt7:Zs6.S.Ok Tryz.prog 181:=Zs6.ok Tryz.func181 (by kernel_rfl) ⟨ZoO,trivial⟩
noncomputable def ZtF (a:LL) (b c d:Int):Option (LL):=Zs6.S.g [.l a,.i b,.i c,.i d]
noncomputable def ZlN (k:Nat) (a b:LL) (c d:Int):Option (LL):=Zs6.lp [0] 0 r0 k [.l a,.l b,.i c,.i d]
theorem Y0 (k:Nat) (b c:LL) (d a:Int):ZlN (k+1) b c d a =
 (if (cop .lss a d) then
 Zj c a [.int .i64] fun (e:Int)=>
 (Zsu b (IntKind.wrap .u64 e)).bind fun f=>
 ZlN k f c d (iop .add .i64 a 1)
 else
 some (b)):=by kernel_rfl
theorem ZmU (d:LL) (a b c:Int):ZtF d a b c =
 (ZlN ZE d (((E0++[[AV.val (.int .i64 a)]])++[[AV.val (.int .i64 b)]])++[[AV.val (.int .i64 c)]]) (List.length (((E0++[[AV.val (.int .i64 a)]])++[[AV.val (.int .i64 b)]])++[[AV.val (.int .i64 c)]]):Int) 0):=by kernel_rfl
noncomputable def ZsR:Fn:=⟨13,[],[],[0],0,[],[],Tryz.f115,[.box [.own false 5],.agg [.int .i64,.int .i64,.int .i64]],[],[(181,Zs6.S)]⟩
theorem Zo3:ZsR.S.Ok Tryz.prog 115:=ZsR.ok Tryz.func115 (by kernel_rfl) ⟨Zt7,trivial⟩
noncomputable def Zr8 (a:LL) (b c d:Int):Option (LL):=ZsR.S.g [.l a,.i b,.i c,.i d]
theorem Zr9 (a:LL) (b c d:Int):Zr8 a b c d =
 ((ZtF a b c d).bind fun e=>
 some (e)):=by kernel_rfl
noncomputable def Zxk:Fn:=⟨14,[4],[],[],0,[],[],Tryz.f218,[.c (.slice 1),.c (.int .i64)],[.c (.own false 5)],[(113,Zpt.S)]⟩
theorem Zyk:Zxk.S.Ok Tryz.prog 218:=Zxk.ok Tryz.func218 (by kernel_rfl) ⟨ZoO,trivial⟩
noncomputable def Zyu (a:LL) (b:Int):Option (LL):=Zxk.S.g [.l a,.i b]
theorem Zre (b:LL) (a:Int):Zyu b a =
 (ZA ((0:Int)≤1)<|
 ZA ((0:Int)≤63)<|
 (Zsu b (iop .xor .u64 (iop .shl .u64 (IntKind.wrap .u64 a) 1) (IntKind.wrap .u64 (iop .shr .i64 a 63)))).bind fun c=>
 some (c)):=by kernel_rfl
noncomputable def Zv5:Fn:=⟨46,[],[(2,[(0,.box [.own false 5]),(30,.c (.slice 1)),(31,.c (.int .i64)),(32,.c (.int .i64))])],[0],0,[],[],Tryz.f179,[.box [.own false 5],.agg hs13],[],[(218,Zxk.S)]⟩
theorem ZzW:Zv5.S.Ok Tryz.prog 179:=Zv5.ok Tryz.func179 (by kernel_rfl) ⟨Zyk,trivial⟩
noncomputable def Zze (a:LL) (b c d e f h j k m n o p:Int):Option (LL):=Zv5.S.g [.l a,.i b,.i c,.i d,.i e,.i f,.i h,.i j,.i k,.i m,.i n,.i o,.i p]
noncomputable def ZgG (k:Nat) (a b:LL) (c d:Int):Option (LL):=Zv5.lp [0] 0 r0 k [.l a,.l b,.i c,.i d]
theorem Zgd (k:Nat) (b c:LL) (d a:Int):ZgG (k+1) b c d a =
 (if (cop .lss a d) then
 Zj c a [.int .i64] fun (e:Int)=>
 (Zyu b e).bind fun f=>
 ZgG k f c d (iop .add .i64 a 1)
 else
 some (b)):=by kernel_rfl
theorem Zrz (m:LL) (a b c d e f g h i j k l:Int):Zze m a b c d e f g h i j k l =
 (ZgG ZE m ((((((((((((E0++[[AV.val (.int .i64 a)]])++[[AV.val (.int .i64 b)]])++[[AV.val (.int .i64 c)]])++[[AV.val (.int .i64 d)]])++[[AV.val (.int .i64 e)]])++[[AV.val (.int .i64 f)]])++[[AV.val (.int .i64 g)]])++[[AV.val (.int .i64 h)]])++[[AV.val (.int .i64 i)]])++[[AV.val (.int .i64 j)]])++[[AV.val (.int .i64 k)]])++[[AV.val (.int .i64 l)]]) (List.length ((((((((((((E0++[[AV.val (.int .i64 a)]])++[[AV.val (.int .i64 b)]])++[[AV.val (.int .i64 c)]])++[[AV.val (.int .i64 d)]])++[[AV.val (.int .i64 e)]])++[[AV.val (.int .i64 f)]])++[[AV.val (.int .i64 g)]])++[[AV.val (.int .i64 h)]])++[[AV.val (.int .i64 i)]])++[[AV.val (.int .i64 j)]])++[[AV.val (.int .i64 k)]])++[[AV.val (.int .i64 l)]]):Int) 0):=by kernel_rfl
noncomputable def Zt4:Fn:=⟨45,[2,3],[(8,[(1,.box hs27),(5,.c (.own false 5)),(31,.c (.int .i64))])],[],0,[],[],Tryz.f231,[.agg hs27],[.c (.own false 5),.c (.int .i64)],[(166,Ztf.S)]⟩
theorem Zz6:Zt4.S.Ok Tryz.prog 231:=Zt4.ok Tryz.func231 (by kernel_rfl) ⟨ZqV,trivial⟩
noncomputable def Zyw (a c d e f h:Int) (j:Bool):Option (LL×Int):=Zt4.S.g [.i a,.i c,.i d,.i e,.i f,.i h,.b j]
noncomputable def Zge (k:Nat) (a c d e f g:Int) (h:Bool) (j:LL) (m:Int):Option (LL×Int):=Zt4.lp [0,1,0,0] 0 r0 k [.i a,.i c,.i d,.i e,.i f,.i g,.b h,.l j,.i m]
theorem K1 (k:Nat) (d b e f g h:Int) (i:Bool) (c:LL) (a:Int):Zge (k+1) d b e f g h i c a =
 (if (cop .lss a 5) then
 ZA ((0:Int)≤(iop .mul .i64 8 a))<|
 ZA (Ju c (E0++[[AV.val (.int .u8 (IntKind.wrap .u8 (iop .shr .i64 b (iop .mul .i64 8 a))))]]) 1)<|
 Zge k d b e f g h i (c++(E0++[[AV.val (.int .u8 (IntKind.wrap .u8 (iop .shr .i64 b (iop .mul .i64 8 a))))]])) (iop .add .i64 a 1)
 else
 some (c,0)):=by kernel_rfl
theorem ZsC (a g b c d e:Int) (f:Bool):Zyw a g b c d e f =
 ((Zxe a g b c d e f).bind fun h=>
 if (!h) then
 some (E0,1)
 else
 if f then
 Zge ZE a g b c d e f (((((E0++[[AV.val (.int .u8 (IntKind.wrap .u8 a))]])++[[AV.val (.int .u8 (IntKind.wrap .u8 b))]])++[[AV.val (.int .u8 (IntKind.wrap .u8 (iop .add .i64 c 8)))]])++[[AV.val (.int .u8 (IntKind.wrap .u8 d))]])++[[AV.val (.int .u8 (IntKind.wrap .u8 e))]]) 0
 else
 Zge ZE a g b c d e f (((((E0++[[AV.val (.int .u8 (IntKind.wrap .u8 a))]])++[[AV.val (.int .u8 (IntKind.wrap .u8 b))]])++[[AV.val (.int .u8 (IntKind.wrap .u8 c))]])++[[AV.val (.int .u8 (IntKind.wrap .u8 d))]])++[[AV.val (.int .u8 (IntKind.wrap .u8 e))]]) 0):=by kernel_rfl
noncomputable def ZvC:Fn:=⟨40,[2,3],[(5,[(1,.box hs16),(4,.c (.own false 5)),(21,.c (.slice 3)),(22,.c (.int .i64)),(23,.c (.int .i64))])],[],0,[],[],Tryz.f219,[.agg hs16],[.c (.own false 5),.c (.int .i64)],[(95,F95.S),(181,Zs6.S),(113,Zpt.S),(231,Zt4.S)]⟩
theorem Zy9:ZvC.S.Ok Tryz.prog 219:=ZvC.ok Tryz.func219 (by kernel_rfl) ⟨Zti,⟨Zt7,⟨ZoO,⟨Zz6,trivial⟩⟩⟩⟩
noncomputable def ZzD (a c d:Int) (e:LL) (f h j k m n:Int) (o:Bool):Option (LL×Int):=ZvC.S.g [.i a,.i c,.i d,.l e,.i f,.i h,.i j,.i k,.i m,.i n,.b o]
noncomputable def ZiU (k:Nat) (a c d:Int) (e:LL) (f g h j m n:Int) (o:Bool) (p q:LL) (r s:Int):Option (LL×Int):=ZvC.lp [0,1,3] 0 r0 k [.i a,.i c,.i d,.l e,.i f,.i g,.i h,.i j,.i m,.i n,.b o,.l p,.l q,.i r,.i s]
theorem Zg9 (k:Nat) (n o p:Int) (q:LL) (d e f g h i:Int) (j:Bool) (b l:LL) (m c:Int):ZiU (k+1) n o p q d e f g h i j b l m c =
 (if (cop .lss c m) then
 Zj l c [.int .i64,.int .i64,.int .i64] fun (a:Int×Int×Int)=>
 (ZtF b a.1 a.2.1 a.2.2).bind fun r=>
 ZiU k n o p q d e f g h i j r l m (iop .add .i64 c 1)
 else
 (Zyw d e f g h i j).bind fun a=>
 ZA (Ju b a.1 1)<|
 some ((b++a.1),0)):=by kernel_rfl
theorem Zsl (b c d:Int) (a:LL) (e f g h i j:Int) (k:Bool):ZzD b c d a e f g h i j k =
 ((g95 b c d a e f g h i j k).bind fun l=>
 if (!l) then
 some (E0,1)
 else
 (ZtF E0 b c d).bind fun m=>
 (Zsu m (IntKind.wrap .u64 (List.length a:Int))).bind fun n=>
 ZiU ZE b c d a e f g h i j k n a (List.length a:Int) 0):=by kernel_rfl
noncomputable def Zs9:Fn:=⟨24,[],[],[0],0,[],[],Tryz.f180,[.box [.own false 5],.agg hs16],[],[(219,ZvC.S),(38,F38.S)]⟩
theorem ZrD:Zs9.S.Ok Tryz.prog 180:=Zs9.ok Tryz.func180 (by kernel_rfl) ⟨Zy9,⟨Zlr,trivial⟩⟩
noncomputable def Zte (a:LL) (c d e:Int) (f:LL) (h j k m n o:Int) (p:Bool):Option (LL):=Zs9.S.g [.l a,.i c,.i d,.i e,.l f,.i h,.i j,.i k,.i m,.i n,.i o,.b p]
theorem ZsK (b:LL) (c d e:Int) (f:LL) (g h i j k l:Int) (m:Bool):Zte b c d e f g h i j k l m =
 ((ZzD c d e f g h i j k l m).bind fun a=>
 (g38 b (List.length a.1:Int)).bind fun n=>
 ZA (Ju n a.1 1)<|
 some ((n++a.1))):=by kernel_rfl
noncomputable def Zv1:Fn:=⟨24,[],[],[0],0,[],[],Tryz.f114,[.box [.own false 5],.agg hs6],[],[(115,ZsR.S),(179,Zv5.S),(38,F38.S),(180,Zs9.S)]⟩
theorem Zu2:Zv1.S.Ok Tryz.prog 114:=Zv1.ok Tryz.func114 (by kernel_rfl) ⟨Zo3,⟨ZzW,⟨Zlr,⟨ZrD,trivial⟩⟩⟩⟩
noncomputable def Zww (a:LL) (c d e f h j k m n o p q r s t u v w x y:Int) (z:LL) (A C D E G H:Int) (J:Bool):Option (LL):=Zv1.S.g [.l a,.i c,.i d,.i e,.i f,.i h,.i j,.i k,.i m,.i n,.i o,.i p,.i q,.i r,.i s,.i t,.i u,.i v,.i w,.i x,.i y,.l z,.i A,.i C,.i D,.i E,.i G,.i H,.b J]
theorem Zsb (a:LL) (b c d e f g h i j k l m n o p q r s t u:Int) (v:LL) (w x y z A C:Int) (D:Bool):Zww a b c d e f g h i j k l m n o p q r s t u v w x y z A C D =
 ((Zr8 a b c d).bind fun E=>
 (Zze E e f g h i j k l m n o p).bind fun G=>
 (g38 G q).bind fun H=>
 (g38 H r).bind fun J=>
 (Zte J s t u v w x y z A C D).bind fun K=>
 some (K)):=by kernel_rfl
noncomputable def Zwi:Fn:=⟨9,[],[],[0],0,[],[],Tryz.f116,[.box [.own false 5],.c (.bool)],[],[(38,F38.S)]⟩
theorem ZtN:Zwi.S.Ok Tryz.prog 116:=Zwi.ok Tryz.func116 (by kernel_rfl) ⟨Zlr,trivial⟩
noncomputable def Zwt (a:LL) (c:Bool):Option (LL):=Zwi.S.g [.l a,.b c]
theorem ZrV (a:LL) (c:Bool):Zwt a c =
 (if c then
 (g38 a 1).bind fun b=>
 some (b)
 else
 (g38 a 0).bind fun b=>
 some (b)):=by kernel_rfl
noncomputable def ZvL:Fn:=⟨20,[],[(2,[(0,.box [.own false 5]),(10,.c (.slice 11)),(11,.c (.int .i64)),(12,.c (.int .i64))])],[0],0,[],[],Tryz.f117,[.box [.own false 5],.c (.slice 11)],[],[(38,F38.S),(180,Zs9.S)]⟩
theorem Zxv:ZvL.S.Ok Tryz.prog 117:=ZvL.ok Tryz.func117 (by kernel_rfl) ⟨Zlr,⟨ZrD,trivial⟩⟩
noncomputable def ZzQ (a b:LL):Option (LL):=ZvL.S.g [.l a,.l b]
noncomputable def Zjw (k:Nat) (a b:LL) (c d:Int):Option (LL):=ZvL.lp [2] 0 r0 k [.l a,.l b,.i c,.i d]
theorem Zgf (k:Nat) (c d:LL) (e b:Int):Zjw (k+1) c d e b =
 (if (cop .lss b e) then
 Zj d b hs16 fun (a:Qt31)=>
 (Zte c a.1 a.2.1 a.2.2.1 a.2.2.2.1 a.2.2.2.2.1 a.2.2.2.2.2.1 a.2.2.2.2.2.2.1 a.2.2.2.2.2.2.2.1 a.2.2.2.2.2.2.2.2.1 a.2.2.2.2.2.2.2.2.2.1 a.2.2.2.2.2.2.2.2.2.2).bind fun f=>
 Zjw k f d e (iop .add .i64 b 1)
 else
 some (c)):=by kernel_rfl
theorem Zsw (b a:LL):ZzQ b a =
 ((g38 b (List.length a:Int)).bind fun c=>
 Zjw ZE c a (List.length a:Int) 0):=by kernel_rfl
noncomputable def Zs7:Fn:=⟨20,[],[(2,[(0,.box [.own false 5]),(10,.c (.slice 3)),(11,.c (.int .i64)),(12,.c (.int .i64))])],[0],0,[],[],Tryz.f118,[.box [.own false 5],.c (.slice 3)],[],[(38,F38.S),(115,ZsR.S)]⟩
theorem Zvr:Zs7.S.Ok Tryz.prog 118:=Zs7.ok Tryz.func118 (by kernel_rfl) ⟨Zlr,⟨Zo3,trivial⟩⟩
noncomputable def Zw9 (a b:LL):Option (LL):=Zs7.S.g [.l a,.l b]
noncomputable def Zjp (k:Nat) (a b:LL) (c d:Int):Option (LL):=Zs7.lp [2] 0 r0 k [.l a,.l b,.i c,.i d]
theorem ZgC (k:Nat) (b c:LL) (d a:Int):Zjp (k+1) b c d a =
 (if (cop .lss a d) then
 Zj c a [.int .i64,.int .i64,.int .i64] fun (e:Int×Int×Int)=>
 (Zr8 b e.1 e.2.1 e.2.2).bind fun f=>
 Zjp k f c d (iop .add .i64 a 1)
 else
 some (b)):=by kernel_rfl
theorem Zq5 (b a:LL):Zw9 b a =
 ((g38 b (List.length a:Int)).bind fun c=>
 Zjp ZE c a (List.length a:Int) 0):=by kernel_rfl
noncomputable def Ztg:Fn:=⟨20,[],[(2,[(0,.box [.own false 5]),(10,.c (.slice 1)),(11,.c (.int .i64)),(12,.c (.int .i64))])],[0],0,[],[],Tryz.f119,[.box [.own false 5],.c (.slice 1)],[],[(38,F38.S)]⟩
theorem Zva:Ztg.S.Ok Tryz.prog 119:=Ztg.ok Tryz.func119 (by kernel_rfl) ⟨Zlr,trivial⟩
noncomputable def ZvV (a b:LL):Option (LL):=Ztg.S.g [.l a,.l b]
noncomputable def ZjW (k:Nat) (a b:LL) (c d:Int):Option (LL):=Ztg.lp [2] 0 r0 k [.l a,.l b,.i c,.i d]
theorem Zgx (k:Nat) (b c:LL) (d a:Int):ZjW (k+1) b c d a =
 (if (cop .lss a d) then
 Zj c a [.int .i64] fun (e:Int)=>
 (g38 b e).bind fun f=>
 ZjW k f c d (iop .add .i64 a 1)
 else
 some (b)):=by kernel_rfl
theorem ZsG (b a:LL):ZvV b a =
 ((g38 b (List.length a:Int)).bind fun c=>
 ZjW ZE c a (List.length a:Int) 0):=by kernel_rfl
noncomputable def Zwh:Fn:=⟨16,[],[],[0],0,[],[],Tryz.f121,[.box [.own false 5],.agg [.int .i64,.slice 1,.slice 1]],[],[(38,F38.S),(119,Ztg.S)]⟩
theorem ZvI:Zwh.S.Ok Tryz.prog 121:=Zwh.ok Tryz.func121 (by kernel_rfl) ⟨Zlr,⟨Zva,trivial⟩⟩
noncomputable def Ztq (a:LL) (b:Int) (c d:LL):Option (LL):=Zwh.S.g [.l a,.i b,.l c,.l d]
theorem ZrR (a:LL) (b:Int) (c d:LL):Ztq a b c d =
 ((g38 a b).bind fun e=>
 (ZvV e c).bind fun f=>
 (ZvV f d).bind fun g=>
 some (g)):=by kernel_rfl
noncomputable def ZnT:Fn:=⟨126,[],[(3,[(0,.box [.own false 5]),(3,.box hs30),(20,.c (.slice 15)),(21,.c (.int .i64)),(22,.c (.int .i64))]),(11,[(0,.box [.own false 5]),(3,.box hs30),(45,.c (.slice 28)),(46,.c (.int .i64)),(47,.c (.int .i64))]),(17,[(0,.box [.own false 5]),(3,.box hs30),(61,.c (.slice 4)),(62,.c (.int .i64)),(63,.c (.int .i64))]),(24,[(0,.box [.own false 5]),(3,.box hs30),(82,.c (.slice 2)),(83,.c (.int .i64)),(84,.c (.int .i64))]),(31,[(0,.box [.own false 5]),(3,.box hs30),(103,.c (.slice 13)),(104,.c (.int .i64)),(105,.c (.int .i64))])],[0],0,[],[],Tryz.f122,[.box [.own false 5],.agg hs30],[],[(38,F38.S),(180,Zs9.S),(115,ZsR.S),(114,Zv1.S),(118,Zs7.S)]⟩
theorem ZtU:ZnT.S.Ok Tryz.prog 122:=ZnT.ok Tryz.func122 (by kernel_rfl) ⟨Zlr,⟨ZrD,⟨Zo3,⟨Zu2,⟨Zvr,trivial⟩⟩⟩⟩⟩
noncomputable def Ztp (a b c d e f h:LL):Option (LL):=ZnT.S.g [.l a,.l b,.l c,.l d,.l e,.l f,.l h]
noncomputable def Zgz (k:Nat) (a b c d e f g h:LL) (j m:Int):Option (LL):=ZnT.lp [2,1,2,1,2,1,2,1,2] 0 r0 k [.l a,.l b,.l c,.l d,.l e,.l f,.l g,.l h,.i j,.i m]
theorem Zhr (k:Nat) (c g h i j l d e:LL) (f b:Int):Zgz (k+1) c g h i j l d e f b =
 (if (cop .lss b f) then
 Zj e b hs12 fun (a:Qt25)=>
 (g38 c a.1).bind fun m=>
 (g38 m a.2.1).bind fun n=>
 (Zte n a.2.2.1 a.2.2.2.1 a.2.2.2.2.1 a.2.2.2.2.2.1 a.2.2.2.2.2.2.1 a.2.2.2.2.2.2.2.1 a.2.2.2.2.2.2.2.2.1 a.2.2.2.2.2.2.2.2.2.1 a.2.2.2.2.2.2.2.2.2.2.1 a.2.2.2.2.2.2.2.2.2.2.2.1 (d4 (d8 a))).bind fun o=>
 Zgz k o g h i j l d e f (iop .add .i64 b 1)
 else
 (Zw9 c d).bind fun a=>
 some (a)):=by kernel_rfl
noncomputable def Zhe (k:Nat) (a b c d e f g h:LL) (j m:Int):Option (LL):=ZnT.lp [2,1,2,1,2,1,2] 0 r0 k [.l a,.l b,.l c,.l d,.l e,.l f,.l g,.l h,.i j,.i m]
theorem Zgw (k:Nat) (d e f g h a i j:LL) (l b:Int):Zhe (k+1) d e f g h a i j l b =
 (if (cop .lss b l) then
 Zj j b [.int .i64,.int .i64] fun (c:Int×Int)=>
 (g38 d c.1).bind fun m=>
 (g38 m c.2).bind fun n=>
 Zhe k n e f g h a i j l (iop .add .i64 b 1)
 else
 (g38 d (List.length a:Int)).bind fun c=>
 Zgz ZE c e f g h a i a (List.length a:Int) 0):=by kernel_rfl
noncomputable def ZgE (k:Nat) (a b c d e f g h:LL) (j m:Int):Option (LL):=ZnT.lp [2,1,2,1,2] 0 r0 k [.l a,.l b,.l c,.l d,.l e,.l f,.l g,.l h,.i j,.i m]
theorem Zgb (k:Nat) (d e f g a h i j:LL) (l c:Int):ZgE (k+1) d e f g a h i j l c =
 (if (cop .lss c l) then
 Zj j c [.int .i64,.int .i64,.int .i64,.int .i64] fun (b:Int×Int×Int×Int)=>
 (g38 d b.1).bind fun m=>
 (Zr8 m b.2.1 b.2.2.1 b.2.2.2).bind fun n=>
 ZgE k n e f g a h i j l (iop .add .i64 c 1)
 else
 (g38 d (List.length a:Int)).bind fun b=>
 Zhe ZE b e f g a h i a (List.length a:Int) 0):=by kernel_rfl
noncomputable def ZgA (k:Nat) (a b c d e f g h:LL) (j m:Int):Option (LL):=ZnT.lp [2,1,2] 0 r0 k [.l a,.l b,.l c,.l d,.l e,.l f,.l g,.l h,.i j,.i m]
theorem ZhA (k:Nat) (d e f b g h i j:LL) (l c:Int):ZgA (k+1) d e f b g h i j l c =
 (if (cop .lss c l) then
 Zj j c hs6 fun (a:Qt10)=>
 (Zww d a.1 a.2.1 a.2.2.1 a.2.2.2.1 a.2.2.2.2.1 a.2.2.2.2.2.1 a.2.2.2.2.2.2.1 a.2.2.2.2.2.2.2.1 a.2.2.2.2.2.2.2.2.1 a.2.2.2.2.2.2.2.2.2.1 a.2.2.2.2.2.2.2.2.2.2.1 a.2.2.2.2.2.2.2.2.2.2.2.1 (d4 (d8 a)).1 (d4 (d8 a)).2.1 (d2 (d4 (d8 a))).1 (d2 (d4 (d8 a))).2.1 (d16 a).1 (d16 a).2.1 (d2 (d16 a)).1 (d2 (d16 a)).2.1 (d4 (d16 a)).1 (d4 (d16 a)).2.1 (d2 (d4 (d16 a))).1 (d2 (d4 (d16 a))).2.1 (d8 (d16 a)).1 (d8 (d16 a)).2.1 (d2 (d8 (d16 a))).1 (d2 (d8 (d16 a))).2).bind fun m=>
 ZgA k m e f b g h i j l (iop .add .i64 c 1)
 else
 (g38 d (List.length b:Int)).bind fun a=>
 ZgE ZE a e f b g h i b (List.length b:Int) 0):=by kernel_rfl
noncomputable def Zgv (k:Nat) (a b c d e f g h:LL) (j m:Int):Option (LL):=ZnT.lp [2] 0 r0 k [.l a,.l b,.l c,.l d,.l e,.l f,.l g,.l h,.i j,.i m]
theorem Zgl (k:Nat) (d e b f g h i j:LL) (l c:Int):Zgv (k+1) d e b f g h i j l c =
 (if (cop .lss c l) then
 Zj j c hs11 fun (a:Qt21)=>
 (Zte d a.1 a.2.1 a.2.2.1 a.2.2.2.1 a.2.2.2.2.1 a.2.2.2.2.2.1 a.2.2.2.2.2.2.1 a.2.2.2.2.2.2.2.1 a.2.2.2.2.2.2.2.2.1 a.2.2.2.2.2.2.2.2.2.1 a.2.2.2.2.2.2.2.2.2.2.1).bind fun m=>
 (g38 m a.2.2.2.2.2.2.2.2.2.2.2.1).bind fun n=>
 (Zr8 n (d4 (d8 a)).1 (d4 (d8 a)).2.1 (d2 (d4 (d8 a)))).bind fun o=>
 Zgv k o e b f g h i j l (iop .add .i64 c 1)
 else
 (g38 d (List.length b:Int)).bind fun a=>
 ZgA ZE a e b f g h i b (List.length b:Int) 0):=by kernel_rfl
theorem Zql (b a c d e f g:LL):Ztp b a c d e f g =
 ((g38 b (List.length a:Int)).bind fun h=>
 Zgv ZE h a c d e f g a (List.length a:Int) 0):=by kernel_rfl
noncomputable def ZwG:Fn:=⟨28,[],[],[0],0,[],[],Tryz.f120,[.box [.own false 5],.agg hs7],[],[(38,F38.S),(121,Zwh.S),(122,ZnT.S),(116,Zwi.S)]⟩
theorem ZxL:ZwG.S.Ok Tryz.prog 120:=ZwG.ok Tryz.func120 (by kernel_rfl) ⟨Zlr,⟨ZvI,⟨ZtU,⟨ZtN,trivial⟩⟩⟩⟩
noncomputable def Zy6 (a:LL) (c d:Int) (e f h j k m n o:LL) (p:Bool) (q:Int) (r s t u v w x y:LL):Option (LL):=ZwG.S.g [.l a,.i c,.i d,.l e,.l f,.l h,.l j,.l k,.l m,.l n,.l o,.b p,.i q,.l r,.l s,.l t,.l u,.l v,.l w,.l x,.l y]
theorem Zru (a:LL) (b c:Int) (d e f g h i j k:LL) (l:Bool) (m:Int) (n o p q r s t u:LL):Zy6 a b c d e f g h i j k l m n o p q r s t u =
 ((g38 a b).bind fun v=>
 (Ztq v c d e).bind fun w=>
 (Ztp w f g h i j k).bind fun x=>
 (Zwt x l).bind fun y=>
 (Ztq y m n o).bind fun z=>
 (Ztp z p q r s t u).bind fun A=>
 some (A)):=by kernel_rfl
noncomputable def Zuy:Fn:=⟨25,[],[(2,[(0,.box [.own false 5]),(10,.c (.slice 2)),(11,.c (.int .i64)),(12,.c (.int .i64))])],[0],0,[],[],Tryz.f123,[.box [.own false 5],.c (.slice 2)],[],[(38,F38.S)]⟩
theorem Zz3:Zuy.S.Ok Tryz.prog 123:=Zuy.ok Tryz.func123 (by kernel_rfl) ⟨Zlr,trivial⟩
noncomputable def Zz2 (a b:LL):Option (LL):=Zuy.S.g [.l a,.l b]
noncomputable def Zi0 (k:Nat) (a b:LL) (c d:Int):Option (LL):=Zuy.lp [2] 0 r0 k [.l a,.l b,.i c,.i d]
theorem ZhD (k:Nat) (b c:LL) (d a:Int):Zi0 (k+1) b c d a =
 (if (cop .lss a d) then
 Zj c a [.int .i64,.int .i64] fun (e:Int×Int)=>
 (g38 b e.1).bind fun f=>
 (g38 f e.2).bind fun g=>
 Zi0 k g c d (iop .add .i64 a 1)
 else
 some (b)):=by kernel_rfl
theorem Zsn (b a:LL):Zz2 b a =
 ((g38 b (List.length a:Int)).bind fun c=>
 Zi0 ZE c a (List.length a:Int) 0):=by kernel_rfl
noncomputable def F39:Fn:=⟨97,[],[],[0],0,[],[],Tryz.f39,[.box [.own false 5],.agg hs0,.c (.int .i64)],[],[(38,F38.S),(114,Zv1.S),(115,ZsR.S),(116,Zwi.S),(117,ZvL.S),(118,Zs7.S),(119,Ztg.S),(120,ZwG.S),(121,Zwh.S),(122,ZnT.S),(123,Zuy.S)]⟩
theorem ZBv:F39.S.Ok Tryz.prog 39:=F39.ok Tryz.func39 (by kernel_rfl) ⟨Zlr,⟨Zu2,⟨Zo3,⟨ZtN,⟨Zxv,⟨Zvr,⟨Zva,⟨ZxL,⟨ZvI,⟨ZtU,⟨Zz3,trivial⟩⟩⟩⟩⟩⟩⟩⟩⟩⟩⟩
noncomputable def g39 (a:LL) (c d e f h j k m n o p:Int) (q:Bool) (r s t u v w x y z A C D E G H J K L M N:Int) (O:LL) (P Q R T U V:Int) (W:Bool) (X Y Z aa:LL) (ab ac:Int) (ad ae af ag ah ai aj ak:LL) (al am:Int) (an ao ap aq ar aZ au av:LL) (aw:Bool) (ax:Int) (ay az a0 a1 a2 a3 a4 a5:LL) (a6:Int):Option (LL):=F39.S.g [.l a,.i c,.i d,.i e,.i f,.i h,.i j,.i k,.i m,.i n,.i o,.i p,.b q,.i r,.i s,.i t,.i u,.i v,.i w,.i x,.i y,.i z,.i A,.i C,.i D,.i E,.i G,.i H,.i J,.i K,.i L,.i M,.i N,.l O,.i P,.i Q,.i R,.i T,.i U,.i V,.b W,.l X,.l Y,.l Z,.l aa,.i ab,.i ac,.l ad,.l ae,.l af,.l ag,.l ah,.l ai,.l aj,.l ak,.i al,.i am,.l an,.l ao,.l ap,.l aq,.l ar,.l aZ,.l au,.l av,.b aw,.i ax,.l ay,.l az,.l a0,.l a1,.l a2,.l a3,.l a4,.l a5,.i a6]
theorem Kx (b:LL) (x1 x2 x3 x4 d e f g h i j:Int) (k:Bool) (l m n o p q r s t u v w x y z A C D E G:Int) (H:LL) (J K L M N O:Int) (P:Bool) (Q R T U:LL) (V W:Int) (X Y Z aa ab ac ad ae:LL) (af ag:Int) (ah ai aj ak al am an ao:LL) (ap:Bool) (aq:Int) (ar aZ au av aw ax ay az:LL) (c:Int):g39 b x1 x2 x3 x4 d e f g h i j k l m n o p q r s t u v w x y z A C D E G H J K L M N O P Q R T U V W X Y Z aa ab ac ad ae af ag ah ai aj ak al am an ao ap aq ar aZ au av aw ax ay az c =
 (if (cop .eql c 0) then
 (g38 b e).bind fun a=>
 some (a)
 else
 if (cop .eql c 1) then
 (Zww b l m n o p q r s t u v w x y z A C D E G H J K L M N O P).bind fun a=>
 some (a)
 else
 if (cop .eql c 2) then
 (Zr8 b g h i).bind fun a=>
 some (a)
 else
 if (cop .eql c 3) then
 (g38 b j).bind fun a=>
 some (a)
 else
 if (cop .eql c 4) then
 (Zwt b k).bind fun a=>
 some (a)
 else
 if (cop .eql c 5) then
 (ZzQ b R).bind fun a=>
 some (a)
 else
 if (cop .eql c 6) then
 (g38 b f).bind fun a=>
 some (a)
 else
 if (cop .eql c 7) then
 (Zw9 b Q).bind fun a=>
 some (a)
 else
 if (cop .eql c 8) then
 (g38 b d).bind fun a=>
 some (a)
 else
 if (cop .eql c 9) then
 (ZvV b T).bind fun a=>
 some (a)
 else
 if (cop .eql c 10) then
 (Zy6 b af ag ah ai aj ak al am an ao ap aq ar aZ au av aw ax ay az).bind fun a=>
 some (a)
 else
 if (cop .eql c 11) then
 (g38 b V).bind fun a=>
 some (a)
 else
 if (cop .eql c 12) then
 (Ztq b W X Y).bind fun a=>
 some (a)
 else
 if (cop .eql c 13) then
 (Ztp b Z aa ab ac ad ae).bind fun a=>
 some (a)
 else
 if (cop .eql c 14) then
 (Zz2 b U).bind fun a=>
 some (a)
 else
 some (b)):=by kernel_rfl
noncomputable def F14:Fn:=⟨55,[2,3],[(5,[(1,.box hs0),(4,.ptr 15 0),(24,.c (.slice 1)),(25,.c (.int .i64)),(26,.c (.int .i64)),(15,.box [.own false 5])]),(11,[(1,.box hs0),(4,.ptr 15 0),(40,.c (.slice 1)),(41,.c (.int .i64)),(42,.c (.int .i64)),(15,.box [.own false 5])])],[],0,[],[],Tryz.f14,[.agg hs0],[.c (.own false 5),.c (.int .i64)],[(12,F12.S),(38,F38.S),(32,F32.S),(39,F39.S)]⟩
theorem Zzm:F14.S.Ok Tryz.prog 14:=F14.ok Tryz.func14 (by kernel_rfl) ⟨ZAw,⟨Zlr,⟨ZzY,⟨ZBv,trivial⟩⟩⟩⟩
noncomputable def g14 (a c d e f h j k m n o:Int) (p:Bool) (q r s t u v w x y z A C D E G H J K L M:Int) (N:LL) (O P Q R T U:Int) (V:Bool) (W X Y Z:LL) (aa ab:Int) (ac ad ae af ag ah ai aj:LL) (ak al:Int) (am an ao ap aq ar aZ au:LL) (av:Bool) (aw:Int) (ax ay az a0 a1 a2 a3 a4:LL):Option (LL×Int):=F14.S.g [.i a,.i c,.i d,.i e,.i f,.i h,.i j,.i k,.i m,.i n,.i o,.b p,.i q,.i r,.i s,.i t,.i u,.i v,.i w,.i x,.i y,.i z,.i A,.i C,.i D,.i E,.i G,.i H,.i J,.i K,.i L,.i M,.l N,.i O,.i P,.i Q,.i R,.i T,.i U,.b V,.l W,.l X,.l Y,.l Z,.i aa,.i ab,.l ac,.l ad,.l ae,.l af,.l ag,.l ah,.l ai,.l aj,.i ak,.i al,.l am,.l an,.l ao,.l ap,.l aq,.l ar,.l aZ,.l au,.b av,.i aw,.l ax,.l ay,.l az,.l a0,.l a1,.l a2,.l a3,.l a4]
noncomputable def Znd (k:Nat) (a c d e f g h j m n o:Int) (p:Bool) (q r s t u v w x y z A C D E G H J K L M:Int) (N:LL) (O P Q R T U:Int) (V:Bool) (W X Y Z:LL) (aa ab:Int) (ac ad ae af ag ah ai aj:LL) (ak al:Int) (am an ao ap aq ar aZ au:LL) (av:Bool) (aw:Int) (ax ay az a0 a1 a2 a3 a4 a5:LL) (a6 a7:Int) (a8:LL):Option (LL×Int):=F14.lp [0,1,0,1,2] 0 r0 k [.i a,.i c,.i d,.i e,.i f,.i g,.i h,.i j,.i m,.i n,.i o,.b p,.i q,.i r,.i s,.i t,.i u,.i v,.i w,.i x,.i y,.i z,.i A,.i C,.i D,.i E,.i G,.i H,.i J,.i K,.i L,.i M,.l N,.i O,.i P,.i Q,.i R,.i T,.i U,.b V,.l W,.l X,.l Y,.l Z,.i aa,.i ab,.l ac,.l ad,.l ae,.l af,.l ag,.l ah,.l ai,.l aj,.i ak,.i al,.l am,.l an,.l ao,.l ap,.l aq,.l ar,.l aZ,.l au,.b av,.i aw,.l ax,.l ay,.l az,.l a0,.l a1,.l a2,.l a3,.l a4,.l a5,.i a6,.i a7,.l a8]
theorem Zj4 (k:Nat) (b c d e f g h i j l m:Int) (n:Bool) (o p q r s t u v w x y z A C D E G H J K:Int) (L:LL) (M N O P Q R:Int) (T:Bool) (U V W X:LL) (Y Z:Int) (aa ab ac ad ae af ag ah:LL) (ai aj:Int) (ak al am an ao ap aq ar:LL) (aZ:Bool) (au:Int) (av aw ax ay az a0 a1 a2 a3:LL) (a4 a:Int) (a5:LL):Znd (k+1) b c d e f g h i j l m n o p q r s t u v w x y z A C D E G H J K L M N O P Q R T U V W X Y Z aa ab ac ad ae af ag ah ai aj ak al am an ao ap aq ar aZ au av aw ax ay az a0 a1 a2 a3 a4 a a5 =
 (if (cop .lss a a4) then
 Zj a3 a [.int .i64] fun (a6:Int)=>
 (g39 a5 b c d e f g h i j l m n o p q r s t u v w x y z A C D E G H J K L M N O P Q R T U V W X Y Z aa ab ac ad ae af ag ah ai aj ak al am an ao ap aq ar aZ au av aw ax ay az a0 a1 a2 a6).bind fun a7=>
 Znd k b c d e f g h i j l m n o p q r s t u v w x y z A C D E G H J K L M N O P Q R T U V W X Y Z aa ab ac ad ae af ag ah ai aj ak al am an ao ap aq ar aZ au av aw ax ay az a0 a1 a2 a3 a4 (iop .add .i64 a 1) a7
 else
 some (a5,0)):=by kernel_rfl
noncomputable def Zoj (k:Nat) (a c d e f g h j m n o:Int) (p:Bool) (q r s t u v w x y z A C D E G H J K L M:Int) (N:LL) (O P Q R T U:Int) (V:Bool) (W X Y Z:LL) (aa ab:Int) (ac ad ae af ag ah ai aj:LL) (ak al:Int) (am an ao ap aq ar aZ au:LL) (av:Bool) (aw:Int) (ax ay az a0 a1 a2 a3 a4 a5:LL) (a6 a7:Int) (a8:LL):Option (LL×Int):=F14.lp [0,1,0] 0 r0 k [.i a,.i c,.i d,.i e,.i f,.i g,.i h,.i j,.i m,.i n,.i o,.b p,.i q,.i r,.i s,.i t,.i u,.i v,.i w,.i x,.i y,.i z,.i A,.i C,.i D,.i E,.i G,.i H,.i J,.i K,.i L,.i M,.l N,.i O,.i P,.i Q,.i R,.i T,.i U,.b V,.l W,.l X,.l Y,.l Z,.i aa,.i ab,.l ac,.l ad,.l ae,.l af,.l ag,.l ah,.l ai,.l aj,.i ak,.i al,.l am,.l an,.l ao,.l ap,.l aq,.l ar,.l aZ,.l au,.b av,.i aw,.l ax,.l ay,.l az,.l a0,.l a1,.l a2,.l a3,.l a4,.l a5,.i a6,.i a7,.l a8]
theorem ZjO (k:Nat) (a d e f g h i j l m n:Int) (o:Bool) (p q r s t u v w x y z A C D E G H J K L:Int) (M:LL) (N O P Q R T:Int) (U:Bool) (V W X Y:LL) (Z aa:Int) (ab ac ad ae af ag ah ai:LL) (aj ak:Int) (al am an ao ap aq ar aZ:LL) (au:Bool) (av:Int) (aw ax ay az a0 a1 a2 a3 a4:LL) (a5 b:Int) (a6:LL):Zoj (k+1) a d e f g h i j l m n o p q r s t u v w x y z A C D E G H J K L M N O P Q R T U V W X Y Z aa ab ac ad ae af ag ah ai aj ak al am an ao ap aq ar aZ au av aw ax ay az a0 a1 a2 a3 a4 a5 b a6 =
 (if (cop .lss b a5) then
 Zj a4 b [.int .i64] fun (c:Int)=>
 (g38 a6 c).bind fun a7=>
 Zoj k a d e f g h i j l m n o p q r s t u v w x y z A C D E G H J K L M N O P Q R T U V W X Y Z aa ab ac ad ae af ag ah ai aj ak al am an ao ap aq ar aZ au av aw ax ay az a0 a1 a2 a3 a4 a5 (iop .add .i64 b 1) a7
 else
 (g32 a).bind fun c=>
 Znd ZE a d e f g h i j l m n o p q r s t u v w x y z A C D E G H J K L M N O P Q R T U V W X Y Z aa ab ac ad ae af ag ah ai aj ak al am an ao ap aq ar aZ au av aw ax ay az a0 a1 a2 a3 c.1 (List.length c.1:Int) 0 a6):=by kernel_rfl
theorem Zt6 (a b c d e f g h i j k:Int) (l:Bool) (m n o p q r s t u v w x y z A C D E G H:Int) (J:LL) (K L M O P Q:Int) (R:Bool) (T U V W:LL) (X Y:Int) (Z aa ab ac ad ae af ag:LL) (ah ai:Int) (aj ak al am an ao ap aq:LL) (ar:Bool) (aZ:Int) (au av aw ax ay az a0 a1:LL):g14 a b c d e f g h i j k l m n o p q r s t u v w x y z A C D E G H J K L M O P Q R T U V W X Y Z aa ab ac ad ae af ag ah ai aj ak al am an ao ap aq ar aZ au av aw ax ay az a0 a1 =
 ((g12 a b c d e f g h i j k l m n o p q r s t u v w x y z A C D E G H J K L M O P Q R T U V W X Y Z aa ab ac ad ae af ag ah ai aj ak al am an ao ap aq ar aZ au av aw ax ay az a0 a1).bind fun a2=>
 if (!a2) then
 some (E0,1)
 else
 Zoj ZE a b c d e f g h i j k l m n o p q r s t u v w x y z A C D E G H J K L M O P Q R T U V W X Y Z aa ab ac ad ae af ag ah ai aj ak al am an ao ap aq ar aZ au av aw ax ay az a0 a1 ((((E0++[[AV.val (.int .i64 a)]])++[[AV.val (.int .i64 b)]])++[[AV.val (.int .i64 c)]])++[[AV.val (.int .i64 d)]]) (List.length ((((E0++[[AV.val (.int .i64 a)]])++[[AV.val (.int .i64 b)]])++[[AV.val (.int .i64 c)]])++[[AV.val (.int .i64 d)]]):Int) 0 E0):=by kernel_rfl
end Go.Proofs.YtjldbnbdcmfbmaaGreat
