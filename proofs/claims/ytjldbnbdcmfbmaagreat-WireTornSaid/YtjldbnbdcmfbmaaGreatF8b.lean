/- Functions of the program, as what they compute. -/
import Derived.Test.YtjldbnbdcmfbmaaGreatF8a
namespace Go.Proofs.YtjldbnbdcmfbmaaGreat
open Go Go.AM
set_option linter.unusedVariables false
set_option maxRecDepth 100000
noncomputable def ZpG:Fn:=⟨50,[4],[(3,[(0,.c (.slice 1)),(1,.c (.int .u64)),(5,.c (.int .i64)),(6,.c (.int .u64))]),(9,[(0,.c (.slice 1)),(1,.c (.int .u64)),(5,.c (.int .i64)),(7,.c (.own true 5)),(8,.c (.int .i64))])],[],0,[],[(16,[(7,0)])],Tryz.f113,[.c (.slice 1),.c (.int .u64)],[.c (.own false 5)],[]⟩
theorem Zp7:ZpG.S.Ok Tryz.prog 113:=ZpG.ok Tryz.func113 (by kernel_rfl) trivial
noncomputable def Zsw (a:LL) (b:Int):Option (LL):=ZpG.S.g [.l a,.i b]
noncomputable def ZcF (k:Nat) (a:LL) (b c:Int) (d:LL) (e:Int):Option (LL):=ZpG.lp [2,1,4] 0 r0 k [.l a,.i b,.i c,.l d,.i e]
theorem Zib (k:Nat) (b:LL) (d e:Int) (c:LL) (a:Int):ZcF (k+1) b d e c a =
 (if (cop .lss a e) then
 if (cop .lss a (iop .sub .i64 e 1)) then
 Zz ((0:Int)≤(iop .add .i64 (List.length b:Int) a))<|
 Zz (((iop .add .i64 (List.length b:Int) a):Int) < (List.length c:Int))<|
 Zz ((0:Int)≤(iop .add .i64 (List.length b:Int) a))<|
 Zz (((iop .add .i64 (List.length b:Int) a):Int) < (List.length c:Int))<|
 Zz ((0:Int)≤7)<|
 ZcF k b (iop .shr .u64 d 7) e (Ja c (Int.toNat (iop .add .i64 (List.length b:Int) a)) 0 [AV.val (.int .u8 (iop .or .u8 (IntKind.wrap .u8 (iop .and .u64 d 127)) 128))]) (iop .add .i64 a 1)
 else
 Zz ((0:Int)≤(iop .add .i64 (List.length b:Int) a))<|
 Zz (((iop .add .i64 (List.length b:Int) a):Int) < (List.length c:Int))<|
 Zz ((0:Int)≤(iop .add .i64 (List.length b:Int) a))<|
 Zz (((iop .add .i64 (List.length b:Int) a):Int) < (List.length c:Int))<|
 Zz ((0:Int)≤7)<|
 ZcF k b (iop .shr .u64 d 7) e (Ja c (Int.toNat (iop .add .i64 (List.length b:Int) a)) 0 [AV.val (.int .u8 (IntKind.wrap .u8 (iop .and .u64 d 127)))]) (iop .add .i64 a 1)
 else
 some (c)):=by kernel_rfl
noncomputable def Zgu (k:Nat) (a:LL) (b c d:Int):Option (LL):=ZpG.lp [2] 0 r0 k [.l a,.i b,.i c,.i d]
theorem Zg0 (k:Nat) (a:LL) (c b d:Int):Zgu (k+1) a c b d =
 (if (cop .gtr d 0) then
 Zz ((0:Int)≤7)<|
 Zgu k a c (iop .add .i64 b 1) (iop .shr .u64 d 7)
 else
 Zz (Zt7 (iop .add .i64 (List.length a:Int) b) 1)<|
 Zz (((iop .add .i64 (List.length a:Int) b):Int)≤(iop .add .i64 (List.length a:Int) b))<|
 Zz (((iop .add .i64 (List.length a:Int) b):Int)≤(iop .add .i64 (List.length a:Int) b))<|
 ZcF ZB a c b (Zlu (List.replicate (Int.toNat (iop .add .i64 (List.length a:Int) b)) [AV.val (.int .u8 0)]) a) 0):=by kernel_rfl
theorem Zuk (b:LL) (a:Int):Zsw b a =
 (Zz ((0:Int)≤7)<|
 Zgu ZB b a 1 (iop .shr .u64 a 7)):=by kernel_rfl
noncomputable def F38:Fn:=⟨14,[],[],[0],0,[],[],Tryz.f38,[.box [.own false 5],.c (.int .i64)],[],[(113,ZpG.S)]⟩
theorem Zmq:F38.S.Ok Tryz.prog 38:=F38.ok Tryz.func38 (by kernel_rfl) ⟨Zp7,trivial⟩
noncomputable def g38 (a:LL) (b:Int):Option (LL):=F38.S.g [.l a,.i b]
theorem Zvr (a:LL) (b:Int):g38 a b =
 ((Zsw a (IntKind.wrap .u64 b)).bind fun c=>
 some (c)):=by kernel_rfl
noncomputable def Zu9:Fn:=⟨25,[4],[(2,[(0,.c (.own false 5)),(13,.c (.slice 1)),(14,.c (.int .i64)),(15,.c (.int .i64))])],[],0,[],[],Tryz.f181,[.c (.own false 5),.agg [.int .i64,.int .i64,.int .i64]],[.c (.own false 5)],[(113,ZpG.S)]⟩
theorem Zx5:Zu9.S.Ok Tryz.prog 181:=Zu9.ok Tryz.func181 (by kernel_rfl) ⟨Zp7,trivial⟩
noncomputable def ZvX (a:LL) (b c d:Int):Option (LL):=Zu9.S.g [.l a,.i b,.i c,.i d]
noncomputable def Zn2 (k:Nat) (a b:LL) (c d:Int):Option (LL):=Zu9.lp [0] 0 r0 k [.l a,.l b,.i c,.i d]
theorem Y7 (k:Nat) (b c:LL) (d a:Int):Zn2 (k+1) b c d a =
 (if (cop .lss a d) then
 Zm c a [.int .i64] fun (e:Int)=>
 (Zsw b (IntKind.wrap .u64 e)).bind fun f=>
 Zn2 k f c d (iop .add .i64 a 1)
 else
 some (b)):=by kernel_rfl
theorem ZmI (d:LL) (a b c:Int):ZvX d a b c =
 (Zn2 ZB d (((E0++[[AV.val (.int .i64 a)]])++[[AV.val (.int .i64 b)]])++[[AV.val (.int .i64 c)]]) (List.length (((E0++[[AV.val (.int .i64 a)]])++[[AV.val (.int .i64 b)]])++[[AV.val (.int .i64 c)]]):Int) 0):=by kernel_rfl
noncomputable def Zsu:Fn:=⟨13,[],[],[0],0,[],[],Tryz.f115,[.box [.own false 5],.agg [.int .i64,.int .i64,.int .i64]],[],[(181,Zu9.S)]⟩
theorem Zqr:Zsu.S.Ok Tryz.prog 115:=Zsu.ok Tryz.func115 (by kernel_rfl) ⟨Zx5,trivial⟩
noncomputable def Zti (a:LL) (b c d:Int):Option (LL):=Zsu.S.g [.l a,.i b,.i c,.i d]
theorem Ztj (a:LL) (b c d:Int):Zti a b c d =
 ((ZvX a b c d).bind fun e=>
 some (e)):=by kernel_rfl
noncomputable def ZyW:Fn:=⟨14,[4],[],[],0,[],[],Tryz.f218,[.c (.slice 1),.c (.int .i64)],[.c (.own false 5)],[(113,ZpG.S)]⟩
theorem ZzX:ZyW.S.Ok Tryz.prog 218:=ZyW.ok Tryz.func218 (by kernel_rfl) ⟨Zp7,trivial⟩
noncomputable def ZBV (a:LL) (b:Int):Option (LL):=ZyW.S.g [.l a,.i b]
theorem Zt9 (b:LL) (a:Int):ZBV b a =
 (Zz ((0:Int)≤1)<|
 Zz ((0:Int)≤63)<|
 (Zsw b (iop .xor .u64 (iop .shl .u64 (IntKind.wrap .u64 a) 1) (IntKind.wrap .u64 (iop .shr .i64 a 63)))).bind fun c=>
 some (c)):=by kernel_rfl
noncomputable def Zvt:Fn:=⟨46,[],[(2,[(0,.box [.own false 5]),(30,.c (.slice 1)),(31,.c (.int .i64)),(32,.c (.int .i64))])],[0],0,[],[],Tryz.f179,[.box [.own false 5],.agg hs13],[],[(218,ZyW.S)]⟩
theorem ZB0:Zvt.S.Ok Tryz.prog 179:=Zvt.ok Tryz.func179 (by kernel_rfl) ⟨ZzX,trivial⟩
noncomputable def ZA0 (a:LL) (b c d e f h j k m n o p:Int):Option (LL):=Zvt.S.g [.l a,.i b,.i c,.i d,.i e,.i f,.i h,.i j,.i k,.i m,.i n,.i o,.i p]
noncomputable def Zid (k:Nat) (a b:LL) (c d:Int):Option (LL):=Zvt.lp [0] 0 r0 k [.l a,.l b,.i c,.i d]
theorem ZgW (k:Nat) (b c:LL) (d a:Int):Zid (k+1) b c d a =
 (if (cop .lss a d) then
 Zm c a [.int .i64] fun (e:Int)=>
 (ZBV b e).bind fun f=>
 Zid k f c d (iop .add .i64 a 1)
 else
 some (b)):=by kernel_rfl
theorem ZuA (m:LL) (a b c d e f g h i j k l:Int):ZA0 m a b c d e f g h i j k l =
 (Zid ZB m ((((((((((((E0++[[AV.val (.int .i64 a)]])++[[AV.val (.int .i64 b)]])++[[AV.val (.int .i64 c)]])++[[AV.val (.int .i64 d)]])++[[AV.val (.int .i64 e)]])++[[AV.val (.int .i64 f)]])++[[AV.val (.int .i64 g)]])++[[AV.val (.int .i64 h)]])++[[AV.val (.int .i64 i)]])++[[AV.val (.int .i64 j)]])++[[AV.val (.int .i64 k)]])++[[AV.val (.int .i64 l)]]) (List.length ((((((((((((E0++[[AV.val (.int .i64 a)]])++[[AV.val (.int .i64 b)]])++[[AV.val (.int .i64 c)]])++[[AV.val (.int .i64 d)]])++[[AV.val (.int .i64 e)]])++[[AV.val (.int .i64 f)]])++[[AV.val (.int .i64 g)]])++[[AV.val (.int .i64 h)]])++[[AV.val (.int .i64 i)]])++[[AV.val (.int .i64 j)]])++[[AV.val (.int .i64 k)]])++[[AV.val (.int .i64 l)]]):Int) 0):=by kernel_rfl
noncomputable def ZvE:Fn:=⟨45,[2,3],[(8,[(1,.box hs27),(5,.c (.own false 5)),(31,.c (.int .i64))])],[],0,[],[],Tryz.f231,[.agg hs27],[.c (.own false 5),.c (.int .i64)],[(166,ZuH.S)]⟩
theorem ZAt:ZvE.S.Ok Tryz.prog 231:=ZvE.ok Tryz.func231 (by kernel_rfl) ⟨ZsS,trivial⟩
noncomputable def ZBF (a c d e f h:Int) (j:Bool):Option (LL×Int):=ZvE.S.g [.i a,.i c,.i d,.i e,.i f,.i h,.b j]
noncomputable def ZhF (k:Nat) (a c d e f g:Int) (h:Bool) (j:LL) (m:Int):Option (LL×Int):=ZvE.lp [0,1,0,0] 0 r0 k [.i a,.i c,.i d,.i e,.i f,.i g,.b h,.l j,.i m]
theorem Vh (k:Nat) (d b e f g h:Int) (i:Bool) (c:LL) (a:Int):ZhF (k+1) d b e f g h i c a =
 (if (cop .lss a 5) then
 Zz ((0:Int)≤(iop .mul .i64 8 a))<|
 Zz (Je c (E0++[[AV.val (.int .u8 (IntKind.wrap .u8 (iop .shr .i64 b (iop .mul .i64 8 a))))]]) 1)<|
 ZhF k d b e f g h i (c++(E0++[[AV.val (.int .u8 (IntKind.wrap .u8 (iop .shr .i64 b (iop .mul .i64 8 a))))]])) (iop .add .i64 a 1)
 else
 some (c,0)):=by kernel_rfl
theorem Ztt (a g b c d e:Int) (f:Bool):ZBF a g b c d e f =
 ((Zx7 a g b c d e f).bind fun h=>
 if (!h) then
 some (E0,1)
 else
 if f then
 ZhF ZB a g b c d e f (((((E0++[[AV.val (.int .u8 (IntKind.wrap .u8 a))]])++[[AV.val (.int .u8 (IntKind.wrap .u8 b))]])++[[AV.val (.int .u8 (IntKind.wrap .u8 (iop .add .i64 c 8)))]])++[[AV.val (.int .u8 (IntKind.wrap .u8 d))]])++[[AV.val (.int .u8 (IntKind.wrap .u8 e))]]) 0
 else
 ZhF ZB a g b c d e f (((((E0++[[AV.val (.int .u8 (IntKind.wrap .u8 a))]])++[[AV.val (.int .u8 (IntKind.wrap .u8 b))]])++[[AV.val (.int .u8 (IntKind.wrap .u8 c))]])++[[AV.val (.int .u8 (IntKind.wrap .u8 d))]])++[[AV.val (.int .u8 (IntKind.wrap .u8 e))]]) 0):=by kernel_rfl
noncomputable def ZxM:Fn:=⟨40,[2,3],[(5,[(1,.box hs16),(4,.c (.own false 5)),(21,.c (.slice 3)),(22,.c (.int .i64)),(23,.c (.int .i64))])],[],0,[],[],Tryz.f219,[.agg hs16],[.c (.own false 5),.c (.int .i64)],[(95,F95.S),(181,Zu9.S),(113,ZpG.S),(231,ZvE.S)]⟩
theorem ZBg:ZxM.S.Ok Tryz.prog 219:=ZxM.ok Tryz.func219 (by kernel_rfl) ⟨ZuO,⟨Zx5,⟨Zp7,⟨ZAt,trivial⟩⟩⟩⟩
noncomputable def ZCo (a c d:Int) (e:LL) (f h j k m n:Int) (o:Bool):Option (LL×Int):=ZxM.S.g [.i a,.i c,.i d,.l e,.i f,.i h,.i j,.i k,.i m,.i n,.b o]
noncomputable def ZkC (k:Nat) (a c d:Int) (e:LL) (f g h j m n:Int) (o:Bool) (p q:LL) (r s:Int):Option (LL×Int):=ZxM.lp [0,1,3] 0 r0 k [.i a,.i c,.i d,.l e,.i f,.i g,.i h,.i j,.i m,.i n,.b o,.l p,.l q,.i r,.i s]
theorem Zhx (k:Nat) (n o p:Int) (q:LL) (d e f g h i:Int) (j:Bool) (b l:LL) (m c:Int):ZkC (k+1) n o p q d e f g h i j b l m c =
 (if (cop .lss c m) then
 Zm l c [.int .i64,.int .i64,.int .i64] fun (a:Int×Int×Int)=>
 (ZvX b a.1 a.2.1 a.2.2).bind fun r=>
 ZkC k n o p q d e f g h i j r l m (iop .add .i64 c 1)
 else
 (ZBF d e f g h i j).bind fun a=>
 Zz (Je b a.1 1)<|
 some ((b++a.1),0)):=by kernel_rfl
theorem Zut (b c d:Int) (a:LL) (e f g h i j:Int) (k:Bool):ZCo b c d a e f g h i j k =
 ((g95 b c d a e f g h i j k).bind fun l=>
 if (!l) then
 some (E0,1)
 else
 (ZvX E0 b c d).bind fun m=>
 (Zsw m (IntKind.wrap .u64 (List.length a:Int))).bind fun n=>
 ZkC ZB b c d a e f g h i j k n a (List.length a:Int) 0):=by kernel_rfl
noncomputable def ZuR:Fn:=⟨24,[],[],[0],0,[],[],Tryz.f180,[.box [.own false 5],.agg hs16],[],[(219,ZxM.S),(38,F38.S)]⟩
theorem ZtP:ZuR.S.Ok Tryz.prog 180:=ZuR.ok Tryz.func180 (by kernel_rfl) ⟨ZBg,⟨Zmq,trivial⟩⟩
noncomputable def ZuY (a:LL) (c d e:Int) (f:LL) (h j k m n o:Int) (p:Bool):Option (LL):=ZuR.S.g [.l a,.i c,.i d,.i e,.l f,.i h,.i j,.i k,.i m,.i n,.i o,.b p]
theorem ZrN (b:LL) (c d e:Int) (f:LL) (g h i j k l:Int) (m:Bool):ZuY b c d e f g h i j k l m =
 ((ZCo c d e f g h i j k l m).bind fun a=>
 (g38 b (List.length a.1:Int)).bind fun n=>
 Zz (Je n a.1 1)<|
 some ((n++a.1))):=by kernel_rfl
noncomputable def ZwY:Fn:=⟨24,[],[],[0],0,[],[],Tryz.f114,[.box [.own false 5],.agg hs6],[],[(115,Zsu.S),(179,Zvt.S),(38,F38.S),(180,ZuR.S)]⟩
theorem Zxi:ZwY.S.Ok Tryz.prog 114:=ZwY.ok Tryz.func114 (by kernel_rfl) ⟨Zqr,⟨ZB0,⟨Zmq,⟨ZtP,trivial⟩⟩⟩⟩
noncomputable def Zzr (a:LL) (c d e f h j k m n o p q r s t u v w x y:Int) (z:LL) (A C D E G H:Int) (J:Bool):Option (LL):=ZwY.S.g [.l a,.i c,.i d,.i e,.i f,.i h,.i j,.i k,.i m,.i n,.i o,.i p,.i q,.i r,.i s,.i t,.i u,.i v,.i w,.i x,.i y,.l z,.i A,.i C,.i D,.i E,.i G,.i H,.b J]
theorem ZtA (a:LL) (b c d e f g h i j k l m n o p q r s t u:Int) (v:LL) (w x y z A C:Int) (D:Bool):Zzr a b c d e f g h i j k l m n o p q r s t u v w x y z A C D =
 ((Zti a b c d).bind fun E=>
 (ZA0 E e f g h i j k l m n o p).bind fun G=>
 (g38 G q).bind fun H=>
 (g38 H r).bind fun J=>
 (ZuY J s t u v w x y z A C D).bind fun K=>
 some (K)):=by kernel_rfl
noncomputable def Zxn:Fn:=⟨9,[],[],[0],0,[],[],Tryz.f116,[.box [.own false 5],.c (.bool)],[],[(38,F38.S)]⟩
theorem Zwa:Zxn.S.Ok Tryz.prog 116:=Zxn.ok Tryz.func116 (by kernel_rfl) ⟨Zmq,trivial⟩
noncomputable def ZyC (a:LL) (c:Bool):Option (LL):=Zxn.S.g [.l a,.b c]
theorem Zty (a:LL) (c:Bool):ZyC a c =
 (if c then
 (g38 a 1).bind fun b=>
 some (b)
 else
 (g38 a 0).bind fun b=>
 some (b)):=by kernel_rfl
noncomputable def ZwM:Fn:=⟨20,[],[(2,[(0,.box [.own false 5]),(10,.c (.slice 11)),(11,.c (.int .i64)),(12,.c (.int .i64))])],[0],0,[],[],Tryz.f117,[.box [.own false 5],.c (.slice 11)],[],[(38,F38.S),(180,ZuR.S)]⟩
theorem ZAU:ZwM.S.Ok Tryz.prog 117:=ZwM.ok Tryz.func117 (by kernel_rfl) ⟨Zmq,⟨ZtP,trivial⟩⟩
noncomputable def ZCB (a b:LL):Option (LL):=ZwM.S.g [.l a,.l b]
noncomputable def ZkB (k:Nat) (a b:LL) (c d:Int):Option (LL):=ZwM.lp [2] 0 r0 k [.l a,.l b,.i c,.i d]
theorem Zgs (k:Nat) (c d:LL) (e b:Int):ZkB (k+1) c d e b =
 (if (cop .lss b e) then
 Zm d b hs16 fun (a:Qt31)=>
 (ZuY c a.1 a.2.1 a.2.2.1 a.2.2.2.1 a.2.2.2.2.1 a.2.2.2.2.2.1 a.2.2.2.2.2.2.1 a.2.2.2.2.2.2.2.1 a.2.2.2.2.2.2.2.2.1 a.2.2.2.2.2.2.2.2.2.1 a.2.2.2.2.2.2.2.2.2.2).bind fun f=>
 ZkB k f d e (iop .add .i64 b 1)
 else
 some (c)):=by kernel_rfl
theorem Zue (b a:LL):ZCB b a =
 ((g38 b (List.length a:Int)).bind fun c=>
 ZkB ZB c a (List.length a:Int) 0):=by kernel_rfl
noncomputable def Zu2:Fn:=⟨20,[],[(2,[(0,.box [.own false 5]),(10,.c (.slice 3)),(11,.c (.int .i64)),(12,.c (.int .i64))])],[0],0,[],[],Tryz.f118,[.box [.own false 5],.c (.slice 3)],[],[(38,F38.S),(115,Zsu.S)]⟩
theorem Zvu:Zu2.S.Ok Tryz.prog 118:=Zu2.ok Tryz.func118 (by kernel_rfl) ⟨Zmq,⟨Zqr,trivial⟩⟩
noncomputable def Zy1 (a b:LL):Option (LL):=Zu2.S.g [.l a,.l b]
noncomputable def Zj2 (k:Nat) (a b:LL) (c d:Int):Option (LL):=Zu2.lp [2] 0 r0 k [.l a,.l b,.i c,.i d]
theorem Zgx (k:Nat) (b c:LL) (d a:Int):Zj2 (k+1) b c d a =
 (if (cop .lss a d) then
 Zm c a [.int .i64,.int .i64,.int .i64] fun (e:Int×Int×Int)=>
 (Zti b e.1 e.2.1 e.2.2).bind fun f=>
 Zj2 k f c d (iop .add .i64 a 1)
 else
 some (b)):=by kernel_rfl
theorem ZrA (b a:LL):Zy1 b a =
 ((g38 b (List.length a:Int)).bind fun c=>
 Zj2 ZB c a (List.length a:Int) 0):=by kernel_rfl
noncomputable def Zu8:Fn:=⟨20,[],[(2,[(0,.box [.own false 5]),(10,.c (.slice 1)),(11,.c (.int .i64)),(12,.c (.int .i64))])],[0],0,[],[],Tryz.f119,[.box [.own false 5],.c (.slice 1)],[],[(38,F38.S)]⟩
theorem Zxc:Zu8.S.Ok Tryz.prog 119:=Zu8.ok Tryz.func119 (by kernel_rfl) ⟨Zmq,trivial⟩
noncomputable def Zv6 (a b:LL):Option (LL):=Zu8.S.g [.l a,.l b]
noncomputable def ZjV (k:Nat) (a b:LL) (c d:Int):Option (LL):=Zu8.lp [2] 0 r0 k [.l a,.l b,.i c,.i d]
theorem ZhN (k:Nat) (b c:LL) (d a:Int):ZjV (k+1) b c d a =
 (if (cop .lss a d) then
 Zm c a [.int .i64] fun (e:Int)=>
 (g38 b e).bind fun f=>
 ZjV k f c d (iop .add .i64 a 1)
 else
 some (b)):=by kernel_rfl
theorem Zrv (b a:LL):Zv6 b a =
 ((g38 b (List.length a:Int)).bind fun c=>
 ZjV ZB c a (List.length a:Int) 0):=by kernel_rfl
noncomputable def Zw1:Fn:=⟨16,[],[],[0],0,[],[],Tryz.f121,[.box [.own false 5],.agg [.int .i64,.slice 1,.slice 1]],[],[(38,F38.S),(119,Zu8.S)]⟩
theorem Zw4:Zw1.S.Ok Tryz.prog 121:=Zw1.ok Tryz.func121 (by kernel_rfl) ⟨Zmq,⟨Zxc,trivial⟩⟩
noncomputable def ZxQ (a:LL) (b:Int) (c d:LL):Option (LL):=Zw1.S.g [.l a,.i b,.l c,.l d]
theorem Zt0 (a:LL) (b:Int) (c d:LL):ZxQ a b c d =
 ((g38 a b).bind fun e=>
 (Zv6 e c).bind fun f=>
 (Zv6 f d).bind fun g=>
 some (g)):=by kernel_rfl
noncomputable def ZoZ:Fn:=⟨126,[],[(3,[(0,.box [.own false 5]),(3,.box hs30),(20,.c (.slice 15)),(21,.c (.int .i64)),(22,.c (.int .i64))]),(11,[(0,.box [.own false 5]),(3,.box hs30),(45,.c (.slice 28)),(46,.c (.int .i64)),(47,.c (.int .i64))]),(17,[(0,.box [.own false 5]),(3,.box hs30),(61,.c (.slice 4)),(62,.c (.int .i64)),(63,.c (.int .i64))]),(24,[(0,.box [.own false 5]),(3,.box hs30),(82,.c (.slice 2)),(83,.c (.int .i64)),(84,.c (.int .i64))]),(31,[(0,.box [.own false 5]),(3,.box hs30),(103,.c (.slice 13)),(104,.c (.int .i64)),(105,.c (.int .i64))])],[0],0,[],[],Tryz.f122,[.box [.own false 5],.agg hs30],[],[(38,F38.S),(180,ZuR.S),(115,Zsu.S),(114,ZwY.S),(118,Zu2.S)]⟩
theorem Zxb:ZoZ.S.Ok Tryz.prog 122:=ZoZ.ok Tryz.func122 (by kernel_rfl) ⟨Zmq,⟨ZtP,⟨Zqr,⟨Zxi,⟨Zvu,trivial⟩⟩⟩⟩⟩
noncomputable def ZwX (a b c d e f h:LL):Option (LL):=ZoZ.S.g [.l a,.l b,.l c,.l d,.l e,.l f,.l h]
noncomputable def ZgU (k:Nat) (a b c d e f g h:LL) (j m:Int):Option (LL):=ZoZ.lp [2,1,2,1,2,1,2,1,2] 0 r0 k [.l a,.l b,.l c,.l d,.l e,.l f,.l g,.l h,.i j,.i m]
theorem Zg1 (k:Nat) (c g h i j l d e:LL) (f b:Int):ZgU (k+1) c g h i j l d e f b =
 (if (cop .lss b f) then
 Zm e b hs12 fun (a:Qt25)=>
 (g38 c a.1).bind fun m=>
 (g38 m a.2.1).bind fun n=>
 (ZuY n a.2.2.1 a.2.2.2.1 a.2.2.2.2.1 a.2.2.2.2.2.1 a.2.2.2.2.2.2.1 a.2.2.2.2.2.2.2.1 a.2.2.2.2.2.2.2.2.1 a.2.2.2.2.2.2.2.2.2.1 a.2.2.2.2.2.2.2.2.2.2.1 a.2.2.2.2.2.2.2.2.2.2.2.1 (d4 (d8 a))).bind fun o=>
 ZgU k o g h i j l d e f (iop .add .i64 b 1)
 else
 (Zy1 c d).bind fun a=>
 some (a)):=by kernel_rfl
noncomputable def Zhm (k:Nat) (a b c d e f g h:LL) (j m:Int):Option (LL):=ZoZ.lp [2,1,2,1,2,1,2] 0 r0 k [.l a,.l b,.l c,.l d,.l e,.l f,.l g,.l h,.i j,.i m]
theorem ZhH (k:Nat) (d e f g h a i j:LL) (l b:Int):Zhm (k+1) d e f g h a i j l b =
 (if (cop .lss b l) then
 Zm j b [.int .i64,.int .i64] fun (c:Int×Int)=>
 (g38 d c.1).bind fun m=>
 (g38 m c.2).bind fun n=>
 Zhm k n e f g h a i j l (iop .add .i64 b 1)
 else
 (g38 d (List.length a:Int)).bind fun c=>
 ZgU ZB c e f g h a i a (List.length a:Int) 0):=by kernel_rfl
noncomputable def Zhh (k:Nat) (a b c d e f g h:LL) (j m:Int):Option (LL):=ZoZ.lp [2,1,2,1,2] 0 r0 k [.l a,.l b,.l c,.l d,.l e,.l f,.l g,.l h,.i j,.i m]
theorem Zhy (k:Nat) (d e f g a h i j:LL) (l c:Int):Zhh (k+1) d e f g a h i j l c =
 (if (cop .lss c l) then
 Zm j c [.int .i64,.int .i64,.int .i64,.int .i64] fun (b:Int×Int×Int×Int)=>
 (g38 d b.1).bind fun m=>
 (Zti m b.2.1 b.2.2.1 b.2.2.2).bind fun n=>
 Zhh k n e f g a h i j l (iop .add .i64 c 1)
 else
 (g38 d (List.length a:Int)).bind fun b=>
 Zhm ZB b e f g a h i a (List.length a:Int) 0):=by kernel_rfl
noncomputable def Zh3 (k:Nat) (a b c d e f g h:LL) (j m:Int):Option (LL):=ZoZ.lp [2,1,2] 0 r0 k [.l a,.l b,.l c,.l d,.l e,.l f,.l g,.l h,.i j,.i m]
theorem Zhg (k:Nat) (d e f b g h i j:LL) (l c:Int):Zh3 (k+1) d e f b g h i j l c =
 (if (cop .lss c l) then
 Zm j c hs6 fun (a:Qt10)=>
 (Zzr d a.1 a.2.1 a.2.2.1 a.2.2.2.1 a.2.2.2.2.1 a.2.2.2.2.2.1 a.2.2.2.2.2.2.1 a.2.2.2.2.2.2.2.1 a.2.2.2.2.2.2.2.2.1 a.2.2.2.2.2.2.2.2.2.1 a.2.2.2.2.2.2.2.2.2.2.1 a.2.2.2.2.2.2.2.2.2.2.2.1 (d4 (d8 a)).1 (d4 (d8 a)).2.1 (d2 (d4 (d8 a))).1 (d2 (d4 (d8 a))).2.1 (d16 a).1 (d16 a).2.1 (d2 (d16 a)).1 (d2 (d16 a)).2.1 (d4 (d16 a)).1 (d4 (d16 a)).2.1 (d2 (d4 (d16 a))).1 (d2 (d4 (d16 a))).2.1 (d8 (d16 a)).1 (d8 (d16 a)).2.1 (d2 (d8 (d16 a))).1 (d2 (d8 (d16 a))).2).bind fun m=>
 Zh3 k m e f b g h i j l (iop .add .i64 c 1)
 else
 (g38 d (List.length b:Int)).bind fun a=>
 Zhh ZB a e f b g h i b (List.length b:Int) 0):=by kernel_rfl
noncomputable def Zhu (k:Nat) (a b c d e f g h:LL) (j m:Int):Option (LL):=ZoZ.lp [2] 0 r0 k [.l a,.l b,.l c,.l d,.l e,.l f,.l g,.l h,.i j,.i m]
theorem ZgD (k:Nat) (d e b f g h i j:LL) (l c:Int):Zhu (k+1) d e b f g h i j l c =
 (if (cop .lss c l) then
 Zm j c hs11 fun (a:Qt21)=>
 (ZuY d a.1 a.2.1 a.2.2.1 a.2.2.2.1 a.2.2.2.2.1 a.2.2.2.2.2.1 a.2.2.2.2.2.2.1 a.2.2.2.2.2.2.2.1 a.2.2.2.2.2.2.2.2.1 a.2.2.2.2.2.2.2.2.2.1 a.2.2.2.2.2.2.2.2.2.2.1).bind fun m=>
 (g38 m a.2.2.2.2.2.2.2.2.2.2.2.1).bind fun n=>
 (Zti n (d4 (d8 a)).1 (d4 (d8 a)).2.1 (d2 (d4 (d8 a)))).bind fun o=>
 Zhu k o e b f g h i j l (iop .add .i64 c 1)
 else
 (g38 d (List.length b:Int)).bind fun a=>
 Zh3 ZB a e b f g h i b (List.length b:Int) 0):=by kernel_rfl
theorem Zr8 (b a c d e f g:LL):ZwX b a c d e f g =
 ((g38 b (List.length a:Int)).bind fun h=>
 Zhu ZB h a c d e f g a (List.length a:Int) 0):=by kernel_rfl
noncomputable def ZzB:Fn:=⟨28,[],[],[0],0,[],[],Tryz.f120,[.box [.own false 5],.agg hs7],[],[(38,F38.S),(121,Zw1.S),(122,ZoZ.S),(116,Zxn.S)]⟩
theorem ZBU:ZzB.S.Ok Tryz.prog 120:=ZzB.ok Tryz.func120 (by kernel_rfl) ⟨Zmq,⟨Zw4,⟨Zxb,⟨Zwa,trivial⟩⟩⟩⟩
noncomputable def ZBY (a:LL) (c d:Int) (e f h j k m n o:LL) (p:Bool) (q:Int) (r s t u v w x y:LL):Option (LL):=ZzB.S.g [.l a,.i c,.i d,.l e,.l f,.l h,.l j,.l k,.l m,.l n,.l o,.b p,.i q,.l r,.l s,.l t,.l u,.l v,.l w,.l x,.l y]
theorem Ztg (a:LL) (b c:Int) (d e f g h i j k:LL) (l:Bool) (m:Int) (n o p q r s t u:LL):ZBY a b c d e f g h i j k l m n o p q r s t u =
 ((g38 a b).bind fun v=>
 (ZxQ v c d e).bind fun w=>
 (ZwX w f g h i j k).bind fun x=>
 (ZyC x l).bind fun y=>
 (ZxQ y m n o).bind fun z=>
 (ZwX z p q r s t u).bind fun A=>
 some (A)):=by kernel_rfl
noncomputable def ZwN:Fn:=⟨25,[],[(2,[(0,.box [.own false 5]),(10,.c (.slice 2)),(11,.c (.int .i64)),(12,.c (.int .i64))])],[0],0,[],[],Tryz.f123,[.box [.own false 5],.c (.slice 2)],[],[(38,F38.S)]⟩
theorem ZBC:ZwN.S.Ok Tryz.prog 123:=ZwN.ok Tryz.func123 (by kernel_rfl) ⟨Zmq,trivial⟩
noncomputable def ZzY (a b:LL):Option (LL):=ZwN.S.g [.l a,.l b]
noncomputable def Zkc (k:Nat) (a b:LL) (c d:Int):Option (LL):=ZwN.lp [2] 0 r0 k [.l a,.l b,.i c,.i d]
theorem Zig (k:Nat) (b c:LL) (d a:Int):Zkc (k+1) b c d a =
 (if (cop .lss a d) then
 Zm c a [.int .i64,.int .i64] fun (e:Int×Int)=>
 (g38 b e.1).bind fun f=>
 (g38 f e.2).bind fun g=>
 Zkc k g c d (iop .add .i64 a 1)
 else
 some (b)):=by kernel_rfl
theorem ZrF (b a:LL):ZzY b a =
 ((g38 b (List.length a:Int)).bind fun c=>
 Zkc ZB c a (List.length a:Int) 0):=by kernel_rfl
noncomputable def F39:Fn:=⟨97,[],[],[0],0,[],[],Tryz.f39,[.box [.own false 5],.agg hs0,.c (.int .i64)],[],[(38,F38.S),(114,ZwY.S),(115,Zsu.S),(116,Zxn.S),(117,ZwM.S),(118,Zu2.S),(119,Zu8.S),(120,ZzB.S),(121,Zw1.S),(122,ZoZ.S),(123,ZwN.S)]⟩
theorem ZD1:F39.S.Ok Tryz.prog 39:=F39.ok Tryz.func39 (by kernel_rfl) ⟨Zmq,⟨Zxi,⟨Zqr,⟨Zwa,⟨ZAU,⟨Zvu,⟨Zxc,⟨ZBU,⟨Zw4,⟨Zxb,⟨ZBC,trivial⟩⟩⟩⟩⟩⟩⟩⟩⟩⟩⟩
noncomputable def g39 (a:LL) (c d e f h j k m n o p:Int) (q:Bool) (r s t u v w x y z A C D E G H J K L M N:Int) (O:LL) (P Q R T U V:Int) (W:Bool) (X Y Z aa:LL) (ab ac:Int) (ad ae af ag ah ai aj ak:LL) (al am:Int) (an ao ap aq ar aZ au av:LL) (aw:Bool) (ax:Int) (ay az a0 a1 a2 a3 a4 a5:LL) (a6:Int):Option (LL):=F39.S.g [.l a,.i c,.i d,.i e,.i f,.i h,.i j,.i k,.i m,.i n,.i o,.i p,.b q,.i r,.i s,.i t,.i u,.i v,.i w,.i x,.i y,.i z,.i A,.i C,.i D,.i E,.i G,.i H,.i J,.i K,.i L,.i M,.i N,.l O,.i P,.i Q,.i R,.i T,.i U,.i V,.b W,.l X,.l Y,.l Z,.l aa,.i ab,.i ac,.l ad,.l ae,.l af,.l ag,.l ah,.l ai,.l aj,.l ak,.i al,.i am,.l an,.l ao,.l ap,.l aq,.l ar,.l aZ,.l au,.l av,.b aw,.i ax,.l ay,.l az,.l a0,.l a1,.l a2,.l a3,.l a4,.l a5,.i a6]
theorem KU (b:LL) (x1 x2 x3 x4 d e f g h i j:Int) (k:Bool) (l m n o p q r s t u v w x y z A C D E G:Int) (H:LL) (J K L M N O:Int) (P:Bool) (Q R T U:LL) (V W:Int) (X Y Z aa ab ac ad ae:LL) (af ag:Int) (ah ai aj ak al am an ao:LL) (ap:Bool) (aq:Int) (ar aZ au av aw ax ay az:LL) (c:Int):g39 b x1 x2 x3 x4 d e f g h i j k l m n o p q r s t u v w x y z A C D E G H J K L M N O P Q R T U V W X Y Z aa ab ac ad ae af ag ah ai aj ak al am an ao ap aq ar aZ au av aw ax ay az c =
 (if (cop .eql c 0) then
 (g38 b e).bind fun a=>
 some (a)
 else
 if (cop .eql c 1) then
 (Zzr b l m n o p q r s t u v w x y z A C D E G H J K L M N O P).bind fun a=>
 some (a)
 else
 if (cop .eql c 2) then
 (Zti b g h i).bind fun a=>
 some (a)
 else
 if (cop .eql c 3) then
 (g38 b j).bind fun a=>
 some (a)
 else
 if (cop .eql c 4) then
 (ZyC b k).bind fun a=>
 some (a)
 else
 if (cop .eql c 5) then
 (ZCB b R).bind fun a=>
 some (a)
 else
 if (cop .eql c 6) then
 (g38 b f).bind fun a=>
 some (a)
 else
 if (cop .eql c 7) then
 (Zy1 b Q).bind fun a=>
 some (a)
 else
 if (cop .eql c 8) then
 (g38 b d).bind fun a=>
 some (a)
 else
 if (cop .eql c 9) then
 (Zv6 b T).bind fun a=>
 some (a)
 else
 if (cop .eql c 10) then
 (ZBY b af ag ah ai aj ak al am an ao ap aq ar aZ au av aw ax ay az).bind fun a=>
 some (a)
 else
 if (cop .eql c 11) then
 (g38 b V).bind fun a=>
 some (a)
 else
 if (cop .eql c 12) then
 (ZxQ b W X Y).bind fun a=>
 some (a)
 else
 if (cop .eql c 13) then
 (ZwX b Z aa ab ac ad ae).bind fun a=>
 some (a)
 else
 if (cop .eql c 14) then
 (ZzY b U).bind fun a=>
 some (a)
 else
 some (b)):=by kernel_rfl
noncomputable def F14:Fn:=⟨55,[2,3],[(5,[(1,.box hs0),(4,.ptr 15 0),(24,.c (.slice 1)),(25,.c (.int .i64)),(26,.c (.int .i64)),(15,.box [.own false 5])]),(11,[(1,.box hs0),(4,.ptr 15 0),(40,.c (.slice 1)),(41,.c (.int .i64)),(42,.c (.int .i64)),(15,.box [.own false 5])])],[],0,[],[],Tryz.f14,[.agg hs0],[.c (.own false 5),.c (.int .i64)],[(12,F12.S),(38,F38.S),(32,F32.S),(39,F39.S)]⟩
theorem ZyR:F14.S.Ok Tryz.prog 14:=F14.ok Tryz.func14 (by kernel_rfl) ⟨ZDn,⟨Zmq,⟨ZB5,⟨ZD1,trivial⟩⟩⟩⟩
noncomputable def g14 (a c d e f h j k m n o:Int) (p:Bool) (q r s t u v w x y z A C D E G H J K L M:Int) (N:LL) (O P Q R T U:Int) (V:Bool) (W X Y Z:LL) (aa ab:Int) (ac ad ae af ag ah ai aj:LL) (ak al:Int) (am an ao ap aq ar aZ au:LL) (av:Bool) (aw:Int) (ax ay az a0 a1 a2 a3 a4:LL):Option (LL×Int):=F14.S.g [.i a,.i c,.i d,.i e,.i f,.i h,.i j,.i k,.i m,.i n,.i o,.b p,.i q,.i r,.i s,.i t,.i u,.i v,.i w,.i x,.i y,.i z,.i A,.i C,.i D,.i E,.i G,.i H,.i J,.i K,.i L,.i M,.l N,.i O,.i P,.i Q,.i R,.i T,.i U,.b V,.l W,.l X,.l Y,.l Z,.i aa,.i ab,.l ac,.l ad,.l ae,.l af,.l ag,.l ah,.l ai,.l aj,.i ak,.i al,.l am,.l an,.l ao,.l ap,.l aq,.l ar,.l aZ,.l au,.b av,.i aw,.l ax,.l ay,.l az,.l a0,.l a1,.l a2,.l a3,.l a4]
noncomputable def Zn5 (k:Nat) (a c d e f g h j m n o:Int) (p:Bool) (q r s t u v w x y z A C D E G H J K L M:Int) (N:LL) (O P Q R T U:Int) (V:Bool) (W X Y Z:LL) (aa ab:Int) (ac ad ae af ag ah ai aj:LL) (ak al:Int) (am an ao ap aq ar aZ au:LL) (av:Bool) (aw:Int) (ax ay az a0 a1 a2 a3 a4 a5:LL) (a6 a7:Int) (a8:LL):Option (LL×Int):=F14.lp [0,1,0,1,2] 0 r0 k [.i a,.i c,.i d,.i e,.i f,.i g,.i h,.i j,.i m,.i n,.i o,.b p,.i q,.i r,.i s,.i t,.i u,.i v,.i w,.i x,.i y,.i z,.i A,.i C,.i D,.i E,.i G,.i H,.i J,.i K,.i L,.i M,.l N,.i O,.i P,.i Q,.i R,.i T,.i U,.b V,.l W,.l X,.l Y,.l Z,.i aa,.i ab,.l ac,.l ad,.l ae,.l af,.l ag,.l ah,.l ai,.l aj,.i ak,.i al,.l am,.l an,.l ao,.l ap,.l aq,.l ar,.l aZ,.l au,.b av,.i aw,.l ax,.l ay,.l az,.l a0,.l a1,.l a2,.l a3,.l a4,.l a5,.i a6,.i a7,.l a8]
theorem Zkt (k:Nat) (b c d e f g h i j l m:Int) (n:Bool) (o p q r s t u v w x y z A C D E G H J K:Int) (L:LL) (M N O P Q R:Int) (T:Bool) (U V W X:LL) (Y Z:Int) (aa ab ac ad ae af ag ah:LL) (ai aj:Int) (ak al am an ao ap aq ar:LL) (aZ:Bool) (au:Int) (av aw ax ay az a0 a1 a2 a3:LL) (a4 a:Int) (a5:LL):Zn5 (k+1) b c d e f g h i j l m n o p q r s t u v w x y z A C D E G H J K L M N O P Q R T U V W X Y Z aa ab ac ad ae af ag ah ai aj ak al am an ao ap aq ar aZ au av aw ax ay az a0 a1 a2 a3 a4 a a5 =
 (if (cop .lss a a4) then
 Zm a3 a [.int .i64] fun (a6:Int)=>
 (g39 a5 b c d e f g h i j l m n o p q r s t u v w x y z A C D E G H J K L M N O P Q R T U V W X Y Z aa ab ac ad ae af ag ah ai aj ak al am an ao ap aq ar aZ au av aw ax ay az a0 a1 a2 a6).bind fun a7=>
 Zn5 k b c d e f g h i j l m n o p q r s t u v w x y z A C D E G H J K L M N O P Q R T U V W X Y Z aa ab ac ad ae af ag ah ai aj ak al am an ao ap aq ar aZ au av aw ax ay az a0 a1 a2 a3 a4 (iop .add .i64 a 1) a7
 else
 some (a5,0)):=by kernel_rfl
noncomputable def ZpN (k:Nat) (a c d e f g h j m n o:Int) (p:Bool) (q r s t u v w x y z A C D E G H J K L M:Int) (N:LL) (O P Q R T U:Int) (V:Bool) (W X Y Z:LL) (aa ab:Int) (ac ad ae af ag ah ai aj:LL) (ak al:Int) (am an ao ap aq ar aZ au:LL) (av:Bool) (aw:Int) (ax ay az a0 a1 a2 a3 a4 a5:LL) (a6 a7:Int) (a8:LL):Option (LL×Int):=F14.lp [0,1,0] 0 r0 k [.i a,.i c,.i d,.i e,.i f,.i g,.i h,.i j,.i m,.i n,.i o,.b p,.i q,.i r,.i s,.i t,.i u,.i v,.i w,.i x,.i y,.i z,.i A,.i C,.i D,.i E,.i G,.i H,.i J,.i K,.i L,.i M,.l N,.i O,.i P,.i Q,.i R,.i T,.i U,.b V,.l W,.l X,.l Y,.l Z,.i aa,.i ab,.l ac,.l ad,.l ae,.l af,.l ag,.l ah,.l ai,.l aj,.i ak,.i al,.l am,.l an,.l ao,.l ap,.l aq,.l ar,.l aZ,.l au,.b av,.i aw,.l ax,.l ay,.l az,.l a0,.l a1,.l a2,.l a3,.l a4,.l a5,.i a6,.i a7,.l a8]
theorem ZkW (k:Nat) (a d e f g h i j l m n:Int) (o:Bool) (p q r s t u v w x y z A C D E G H J K L:Int) (M:LL) (N O P Q R T:Int) (U:Bool) (V W X Y:LL) (Z aa:Int) (ab ac ad ae af ag ah ai:LL) (aj ak:Int) (al am an ao ap aq ar aZ:LL) (au:Bool) (av:Int) (aw ax ay az a0 a1 a2 a3 a4:LL) (a5 b:Int) (a6:LL):ZpN (k+1) a d e f g h i j l m n o p q r s t u v w x y z A C D E G H J K L M N O P Q R T U V W X Y Z aa ab ac ad ae af ag ah ai aj ak al am an ao ap aq ar aZ au av aw ax ay az a0 a1 a2 a3 a4 a5 b a6 =
 (if (cop .lss b a5) then
 Zm a4 b [.int .i64] fun (c:Int)=>
 (g38 a6 c).bind fun a7=>
 ZpN k a d e f g h i j l m n o p q r s t u v w x y z A C D E G H J K L M N O P Q R T U V W X Y Z aa ab ac ad ae af ag ah ai aj ak al am an ao ap aq ar aZ au av aw ax ay az a0 a1 a2 a3 a4 a5 (iop .add .i64 b 1) a7
 else
 (g32 a).bind fun c=>
 Zn5 ZB a d e f g h i j l m n o p q r s t u v w x y z A C D E G H J K L M N O P Q R T U V W X Y Z aa ab ac ad ae af ag ah ai aj ak al am an ao ap aq ar aZ au av aw ax ay az a0 a1 a2 a3 c.1 (List.length c.1:Int) 0 a6):=by kernel_rfl
theorem ZvU (a b c d e f g h i j k:Int) (l:Bool) (m n o p q r s t u v w x y z A C D E G H:Int) (J:LL) (K L M O P Q:Int) (R:Bool) (T U V W:LL) (X Y:Int) (Z aa ab ac ad ae af ag:LL) (ah ai:Int) (aj ak al am an ao ap aq:LL) (ar:Bool) (aZ:Int) (au av aw ax ay az a0 a1:LL):g14 a b c d e f g h i j k l m n o p q r s t u v w x y z A C D E G H J K L M O P Q R T U V W X Y Z aa ab ac ad ae af ag ah ai aj ak al am an ao ap aq ar aZ au av aw ax ay az a0 a1 =
 ((g12 a b c d e f g h i j k l m n o p q r s t u v w x y z A C D E G H J K L M O P Q R T U V W X Y Z aa ab ac ad ae af ag ah ai aj ak al am an ao ap aq ar aZ au av aw ax ay az a0 a1).bind fun a2=>
 if (!a2) then
 some (E0,1)
 else
 ZpN ZB a b c d e f g h i j k l m n o p q r s t u v w x y z A C D E G H J K L M O P Q R T U V W X Y Z aa ab ac ad ae af ag ah ai aj ak al am an ao ap aq ar aZ au av aw ax ay az a0 a1 ((((E0++[[AV.val (.int .i64 a)]])++[[AV.val (.int .i64 b)]])++[[AV.val (.int .i64 c)]])++[[AV.val (.int .i64 d)]]) (List.length ((((E0++[[AV.val (.int .i64 a)]])++[[AV.val (.int .i64 b)]])++[[AV.val (.int .i64 c)]])++[[AV.val (.int .i64 d)]]):Int) 0 E0):=by kernel_rfl
end Go.Proofs.YtjldbnbdcmfbmaaGreat
