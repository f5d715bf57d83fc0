/- Functions of the program, as what they compute. -/
import Derived.Test.YtjldbnbdcmfbmaaGreatF8a
namespace Go.Proofs.YtjldbnbdcmfbmaaGreat
open Go Go.AM
set_option linter.unusedVariables false
set_option maxRecDepth 100000
noncomputable def ZpU:Fn:=⟨50,[4],[(3,[(0,.c (.slice 1)),(1,.c (.int .u64)),(5,.c (.int .i64)),(6,.c (.int .u64))]),(9,[(0,.c (.slice 1)),(1,.c (.int .u64)),(5,.c (.int .i64)),(7,.c (.own true 5)),(8,.c (.int .i64))])],[],0,[],[(16,[(7,0)])],Tryz.f113,[.c (.slice 1),.c (.int .u64)],[.c (.own false 5)],[]⟩
theorem Zqt:ZpU.S.Ok Tryz.prog 113:=ZpU.ok Tryz.func113 (by kernel_rfl) trivial
noncomputable def ZtR (a:LL) (b:Int):Option (LL):=ZpU.S.g [.l a,.i b]
noncomputable def ZcM (k:Nat) (a:LL) (b c:Int) (d:LL) (e:Int):Option (LL):=ZpU.lp [2,1,4] 0 r0 k [.l a,.i b,.i c,.l d,.i e]
theorem ZhD (k:Nat) (b:LL) (d e:Int) (c:LL) (a:Int):ZcM (k+1) b d e c a =
 (if (cop .lss a e) then
 if (cop .lss a (iop .sub .i64 e 1)) then
 ZE ((0:Int)≤(iop .add .i64 (List.length b:Int) a))<|
 ZE (((iop .add .i64 (List.length b:Int) a):Int) < (List.length c:Int))<|
 ZE ((0:Int)≤(iop .add .i64 (List.length b:Int) a))<|
 ZE (((iop .add .i64 (List.length b:Int) a):Int) < (List.length c:Int))<|
 ZE ((0:Int)≤7)<|
 ZcM k b (iop .shr .u64 d 7) e (Je c (Int.toNat (iop .add .i64 (List.length b:Int) a)) 0 [AV.val (.int .u8 (iop .or .u8 (IntKind.wrap .u8 (iop .and .u64 d 127)) 128))]) (iop .add .i64 a 1)
 else
 ZE ((0:Int)≤(iop .add .i64 (List.length b:Int) a))<|
 ZE (((iop .add .i64 (List.length b:Int) a):Int) < (List.length c:Int))<|
 ZE ((0:Int)≤(iop .add .i64 (List.length b:Int) a))<|
 ZE (((iop .add .i64 (List.length b:Int) a):Int) < (List.length c:Int))<|
 ZE ((0:Int)≤7)<|
 ZcM k b (iop .shr .u64 d 7) e (Je c (Int.toNat (iop .add .i64 (List.length b:Int) a)) 0 [AV.val (.int .u8 (IntKind.wrap .u8 (iop .and .u64 d 127)))]) (iop .add .i64 a 1)
 else
 some (c)):=by kernel_rfl
noncomputable def Zhl (k:Nat) (a:LL) (b c d:Int):Option (LL):=ZpU.lp [2] 0 r0 k [.l a,.i b,.i c,.i d]
theorem ZgG (k:Nat) (a:LL) (c b d:Int):Zhl (k+1) a c b d =
 (if (cop .gtr d 0) then
 ZE ((0:Int)≤7)<|
 Zhl k a c (iop .add .i64 b 1) (iop .shr .u64 d 7)
 else
 ZE (ZsM (iop .add .i64 (List.length a:Int) b) 1)<|
 ZE (((iop .add .i64 (List.length a:Int) b):Int)≤(iop .add .i64 (List.length a:Int) b))<|
 ZE (((iop .add .i64 (List.length a:Int) b):Int)≤(iop .add .i64 (List.length a:Int) b))<|
 ZcM Zr a c b (Zl6 (List.replicate (Int.toNat (iop .add .i64 (List.length a:Int) b)) [AV.val (.int .u8 0)]) a) 0):=by kernel_rfl
theorem Zr9 (b:LL) (a:Int):ZtR b a =
 (ZE ((0:Int)≤7)<|
 Zhl Zr b a 1 (iop .shr .u64 a 7)):=by kernel_rfl
noncomputable def F38:Fn:=⟨14,[],[],[0],0,[],[],Tryz.f38,[.box [.own false 5],.c (.int .i64)],[],[(113,ZpU.S)]⟩
theorem Zml:F38.S.Ok Tryz.prog 38:=F38.ok Tryz.func38 (by kernel_rfl) ⟨Zqt,trivial⟩
noncomputable def g38 (a:LL) (b:Int):Option (LL):=F38.S.g [.l a,.i b]
theorem ZwK (a:LL) (b:Int):g38 a b =
 ((ZtR a (IntKind.wrap .u64 b)).bind fun c=>
 some (c)):=by kernel_rfl
noncomputable def ZuL:Fn:=⟨25,[4],[(2,[(0,.c (.own false 5)),(13,.c (.slice 1)),(14,.c (.int .i64)),(15,.c (.int .i64))])],[],0,[],[],Tryz.f181,[.c (.own false 5),.agg [.int .i64,.int .i64,.int .i64]],[.c (.own false 5)],[(113,ZpU.S)]⟩
theorem Zxx:ZuL.S.Ok Tryz.prog 181:=ZuL.ok Tryz.func181 (by kernel_rfl) ⟨Zqt,trivial⟩
noncomputable def ZvQ (a:LL) (b c d:Int):Option (LL):=ZuL.S.g [.l a,.i b,.i c,.i d]
noncomputable def Zmz (k:Nat) (a b:LL) (c d:Int):Option (LL):=ZuL.lp [0] 0 r0 k [.l a,.l b,.i c,.i d]
theorem Kn (k:Nat) (b c:LL) (d a:Int):Zmz (k+1) b c d a =
 (if (cop .lss a d) then
 Zm c a [.int .i64] fun (e:Int)=>
 (ZtR b (IntKind.wrap .u64 e)).bind fun f=>
 Zmz k f c d (iop .add .i64 a 1)
 else
 some (b)):=by kernel_rfl
theorem Znc (d:LL) (a b c:Int):ZvQ d a b c =
 (Zmz Zr d (((E0++[[AV.val (.int .i64 a)]])++[[AV.val (.int .i64 b)]])++[[AV.val (.int .i64 c)]]) (List.length (((E0++[[AV.val (.int .i64 a)]])++[[AV.val (.int .i64 b)]])++[[AV.val (.int .i64 c)]]):Int) 0):=by kernel_rfl
noncomputable def Zts:Fn:=⟨13,[],[],[0],0,[],[],Tryz.f115,[.box [.own false 5],.agg [.int .i64,.int .i64,.int .i64]],[],[(181,ZuL.S)]⟩
theorem Zqy:Zts.S.Ok Tryz.prog 115:=Zts.ok Tryz.func115 (by kernel_rfl) ⟨Zxx,trivial⟩
noncomputable def Zsk (a:LL) (b c d:Int):Option (LL):=Zts.S.g [.l a,.i b,.i c,.i d]
theorem Zr3 (a:LL) (b c d:Int):Zsk a b c d =
 ((ZvQ a b c d).bind fun e=>
 some (e)):=by kernel_rfl
noncomputable def ZyR:Fn:=⟨14,[4],[],[],0,[],[],Tryz.f218,[.c (.slice 1),.c (.int .i64)],[.c (.own false 5)],[(113,ZpU.S)]⟩
theorem ZzB:ZyR.S.Ok Tryz.prog 218:=ZyR.ok Tryz.func218 (by kernel_rfl) ⟨Zqt,trivial⟩
noncomputable def ZCo (a:LL) (b:Int):Option (LL):=ZyR.S.g [.l a,.i b]
theorem Zsa (b:LL) (a:Int):ZCo b a =
 (ZE ((0:Int)≤1)<|
 ZE ((0:Int)≤63)<|
 (ZtR b (iop .xor .u64 (iop .shl .u64 (IntKind.wrap .u64 a) 1) (IntKind.wrap .u64 (iop .shr .i64 a 63)))).bind fun c=>
 some (c)):=by kernel_rfl
noncomputable def Zv5:Fn:=⟨46,[],[(2,[(0,.box [.own false 5]),(30,.c (.slice 1)),(31,.c (.int .i64)),(32,.c (.int .i64))])],[0],0,[],[],Tryz.f179,[.box [.own false 5],.agg hs13],[],[(218,ZyR.S)]⟩
theorem ZAA:Zv5.S.Ok Tryz.prog 179:=Zv5.ok Tryz.func179 (by kernel_rfl) ⟨ZzB,trivial⟩
noncomputable def ZCD (a:LL) (b c d e f h j k m n o p:Int):Option (LL):=Zv5.S.g [.l a,.i b,.i c,.i d,.i e,.i f,.i h,.i j,.i k,.i m,.i n,.i o,.i p]
noncomputable def ZhM (k:Nat) (a b:LL) (c d:Int):Option (LL):=Zv5.lp [0] 0 r0 k [.l a,.l b,.i c,.i d]
theorem Zgn (k:Nat) (b c:LL) (d a:Int):ZhM (k+1) b c d a =
 (if (cop .lss a d) then
 Zm c a [.int .i64] fun (e:Int)=>
 (ZCo b e).bind fun f=>
 ZhM k f c d (iop .add .i64 a 1)
 else
 some (b)):=by kernel_rfl
theorem Ztx (m:LL) (a b c d e f g h i j k l:Int):ZCD m a b c d e f g h i j k l =
 (ZhM Zr m ((((((((((((E0++[[AV.val (.int .i64 a)]])++[[AV.val (.int .i64 b)]])++[[AV.val (.int .i64 c)]])++[[AV.val (.int .i64 d)]])++[[AV.val (.int .i64 e)]])++[[AV.val (.int .i64 f)]])++[[AV.val (.int .i64 g)]])++[[AV.val (.int .i64 h)]])++[[AV.val (.int .i64 i)]])++[[AV.val (.int .i64 j)]])++[[AV.val (.int .i64 k)]])++[[AV.val (.int .i64 l)]]) (List.length ((((((((((((E0++[[AV.val (.int .i64 a)]])++[[AV.val (.int .i64 b)]])++[[AV.val (.int .i64 c)]])++[[AV.val (.int .i64 d)]])++[[AV.val (.int .i64 e)]])++[[AV.val (.int .i64 f)]])++[[AV.val (.int .i64 g)]])++[[AV.val (.int .i64 h)]])++[[AV.val (.int .i64 i)]])++[[AV.val (.int .i64 j)]])++[[AV.val (.int .i64 k)]])++[[AV.val (.int .i64 l)]]):Int) 0):=by kernel_rfl
noncomputable def ZwL:Fn:=⟨45,[2,3],[(8,[(1,.box hs27),(5,.c (.own false 5)),(31,.c (.int .i64))])],[],0,[],[],Tryz.f231,[.agg hs27],[.c (.own false 5),.c (.int .i64)],[(166,ZuI.S)]⟩
theorem ZCq:ZwL.S.Ok Tryz.prog 231:=ZwL.ok Tryz.func231 (by kernel_rfl) ⟨Zsc,trivial⟩
noncomputable def ZB8 (a c d e f h:Int) (j:Bool):Option (LL×Int):=ZwL.S.g [.i a,.i c,.i d,.i e,.i f,.i h,.b j]
noncomputable def ZhY (k:Nat) (a c d e f g:Int) (h:Bool) (j:LL) (m:Int):Option (LL×Int):=ZwL.lp [0,1,0,0] 0 r0 k [.i a,.i c,.i d,.i e,.i f,.i g,.b h,.l j,.i m]
theorem Vs (k:Nat) (d b e f g h:Int) (i:Bool) (c:LL) (a:Int):ZhY (k+1) d b e f g h i c a =
 (if (cop .lss a 5) then
 ZE ((0:Int)≤(iop .mul .i64 8 a))<|
 ZE (Jy c (E0++[[AV.val (.int .u8 (IntKind.wrap .u8 (iop .shr .i64 b (iop .mul .i64 8 a))))]]) 1)<|
 ZhY k d b e f g h i (c++(E0++[[AV.val (.int .u8 (IntKind.wrap .u8 (iop .shr .i64 b (iop .mul .i64 8 a))))]])) (iop .add .i64 a 1)
 else
 some (c,0)):=by kernel_rfl
theorem Zto (a g b c d e:Int) (f:Bool):ZB8 a g b c d e f =
 ((Zy7 a g b c d e f).bind fun h=>
 if (!h) then
 some (E0,1)
 else
 if f then
 ZhY Zr a g b c d e f (((((E0++[[AV.val (.int .u8 (IntKind.wrap .u8 a))]])++[[AV.val (.int .u8 (IntKind.wrap .u8 b))]])++[[AV.val (.int .u8 (IntKind.wrap .u8 (iop .add .i64 c 8)))]])++[[AV.val (.int .u8 (IntKind.wrap .u8 d))]])++[[AV.val (.int .u8 (IntKind.wrap .u8 e))]]) 0
 else
 ZhY Zr a g b c d e f (((((E0++[[AV.val (.int .u8 (IntKind.wrap .u8 a))]])++[[AV.val (.int .u8 (IntKind.wrap .u8 b))]])++[[AV.val (.int .u8 (IntKind.wrap .u8 c))]])++[[AV.val (.int .u8 (IntKind.wrap .u8 d))]])++[[AV.val (.int .u8 (IntKind.wrap .u8 e))]]) 0):=by kernel_rfl
noncomputable def Zw0:Fn:=⟨40,[2,3],[(5,[(1,.box hs16),(4,.c (.own false 5)),(21,.c (.slice 3)),(22,.c (.int .i64)),(23,.c (.int .i64))])],[],0,[],[],Tryz.f219,[.agg hs16],[.c (.own false 5),.c (.int .i64)],[(95,F95.S),(181,ZuL.S),(113,ZpU.S),(231,ZwL.S)]⟩
theorem ZCi:Zw0.S.Ok Tryz.prog 219:=Zw0.ok Tryz.func219 (by kernel_rfl) ⟨Zuq,⟨Zxx,⟨Zqt,⟨ZCq,trivial⟩⟩⟩⟩
noncomputable def ZCG (a c d:Int) (e:LL) (f h j k m n:Int) (o:Bool):Option (LL×Int):=Zw0.S.g [.i a,.i c,.i d,.l e,.i f,.i h,.i j,.i k,.i m,.i n,.b o]
noncomputable def ZjB (k:Nat) (a c d:Int) (e:LL) (f g h j m n:Int) (o:Bool) (p q:LL) (r s:Int):Option (LL×Int):=Zw0.lp [0,1,3] 0 r0 k [.i a,.i c,.i d,.l e,.i f,.i g,.i h,.i j,.i m,.i n,.b o,.l p,.l q,.i r,.i s]
theorem ZhU (k:Nat) (n o p:Int) (q:LL) (d e f g h i:Int) (j:Bool) (b l:LL) (m c:Int):ZjB (k+1) n o p q d e f g h i j b l m c =
 (if (cop .lss c m) then
 Zm l c [.int .i64,.int .i64,.int .i64] fun (a:Int×Int×Int)=>
 (ZvQ b a.1 a.2.1 a.2.2).bind fun r=>
 ZjB k n o p q d e f g h i j r l m (iop .add .i64 c 1)
 else
 (ZB8 d e f g h i j).bind fun a=>
 ZE (Jy b a.1 1)<|
 some ((b++a.1),0)):=by kernel_rfl
theorem ZsF (b c d:Int) (a:LL) (e f g h i j:Int) (k:Bool):ZCG b c d a e f g h i j k =
 ((g95 b c d a e f g h i j k).bind fun l=>
 if (!l) then
 some (E0,1)
 else
 (ZvQ E0 b c d).bind fun m=>
 (ZtR m (IntKind.wrap .u64 (List.length a:Int))).bind fun n=>
 ZjB Zr b c d a e f g h i j k n a (List.length a:Int) 0):=by kernel_rfl
noncomputable def ZuF:Fn:=⟨24,[],[],[0],0,[],[],Tryz.f180,[.box [.own false 5],.agg hs16],[],[(219,Zw0.S),(38,F38.S)]⟩
theorem ZtH:ZuF.S.Ok Tryz.prog 180:=ZuF.ok Tryz.func180 (by kernel_rfl) ⟨ZCi,⟨Zml,trivial⟩⟩
noncomputable def Zuy (a:LL) (c d e:Int) (f:LL) (h j k m n o:Int) (p:Bool):Option (LL):=ZuF.S.g [.l a,.i c,.i d,.i e,.l f,.i h,.i j,.i k,.i m,.i n,.i o,.b p]
theorem Ztk (b:LL) (c d e:Int) (f:LL) (g h i j k l:Int) (m:Bool):Zuy b c d e f g h i j k l m =
 ((ZCG c d e f g h i j k l m).bind fun a=>
 (g38 b (List.length a.1:Int)).bind fun n=>
 ZE (Jy n a.1 1)<|
 some ((n++a.1))):=by kernel_rfl
noncomputable def Zv8:Fn:=⟨24,[],[],[0],0,[],[],Tryz.f114,[.box [.own false 5],.agg hs6],[],[(115,Zts.S),(179,Zv5.S),(38,F38.S),(180,ZuF.S)]⟩
theorem ZxH:Zv8.S.Ok Tryz.prog 114:=Zv8.ok Tryz.func114 (by kernel_rfl) ⟨Zqy,⟨ZAA,⟨Zml,⟨ZtH,trivial⟩⟩⟩⟩
noncomputable def ZyU (a:LL) (c d e f h j k m n o p q r s t u v w x y:Int) (z:LL) (A C D E G H:Int) (J:Bool):Option (LL):=Zv8.S.g [.l a,.i c,.i d,.i e,.i f,.i h,.i j,.i k,.i m,.i n,.i o,.i p,.i q,.i r,.i s,.i t,.i u,.i v,.i w,.i x,.i y,.l z,.i A,.i C,.i D,.i E,.i G,.i H,.b J]
theorem Zt0 (a:LL) (b c d e f g h i j k l m n o p q r s t u:Int) (v:LL) (w x y z A C:Int) (D:Bool):ZyU a b c d e f g h i j k l m n o p q r s t u v w x y z A C D =
 ((Zsk a b c d).bind fun E=>
 (ZCD E e f g h i j k l m n o p).bind fun G=>
 (g38 G q).bind fun H=>
 (g38 H r).bind fun J=>
 (Zuy J s t u v w x y z A C D).bind fun K=>
 some (K)):=by kernel_rfl
noncomputable def ZvS:Fn:=⟨9,[],[],[0],0,[],[],Tryz.f116,[.box [.own false 5],.c (.bool)],[],[(38,F38.S)]⟩
theorem Zwo:ZvS.S.Ok Tryz.prog 116:=ZvS.ok Tryz.func116 (by kernel_rfl) ⟨Zml,trivial⟩
noncomputable def Zzh (a:LL) (c:Bool):Option (LL):=ZvS.S.g [.l a,.b c]
theorem ZsH (a:LL) (c:Bool):Zzh a c =
 (if c then
 (g38 a 1).bind fun b=>
 some (b)
 else
 (g38 a 0).bind fun b=>
 some (b)):=by kernel_rfl
noncomputable def Zvk:Fn:=⟨20,[],[(2,[(0,.box [.own false 5]),(10,.c (.slice 11)),(11,.c (.int .i64)),(12,.c (.int .i64))])],[0],0,[],[],Tryz.f117,[.box [.own false 5],.c (.slice 11)],[],[(38,F38.S),(180,ZuF.S)]⟩
theorem ZAC:Zvk.S.Ok Tryz.prog 117:=Zvk.ok Tryz.func117 (by kernel_rfl) ⟨Zml,⟨ZtH,trivial⟩⟩
noncomputable def ZzT (a b:LL):Option (LL):=Zvk.S.g [.l a,.l b]
noncomputable def ZkF (k:Nat) (a b:LL) (c d:Int):Option (LL):=Zvk.lp [2] 0 r0 k [.l a,.l b,.i c,.i d]
theorem ZgN (k:Nat) (c d:LL) (e b:Int):ZkF (k+1) c d e b =
 (if (cop .lss b e) then
 Zm d b hs16 fun (a:Qt31)=>
 (Zuy c a.1 a.2.1 a.2.2.1 a.2.2.2.1 a.2.2.2.2.1 a.2.2.2.2.2.1 a.2.2.2.2.2.2.1 a.2.2.2.2.2.2.2.1 a.2.2.2.2.2.2.2.2.1 a.2.2.2.2.2.2.2.2.2.1 a.2.2.2.2.2.2.2.2.2.2).bind fun f=>
 ZkF k f d e (iop .add .i64 b 1)
 else
 some (c)):=by kernel_rfl
theorem Zt3 (b a:LL):ZzT b a =
 ((g38 b (List.length a:Int)).bind fun c=>
 ZkF Zr c a (List.length a:Int) 0):=by kernel_rfl
noncomputable def Zuo:Fn:=⟨20,[],[(2,[(0,.box [.own false 5]),(10,.c (.slice 3)),(11,.c (.int .i64)),(12,.c (.int .i64))])],[0],0,[],[],Tryz.f118,[.box [.own false 5],.c (.slice 3)],[],[(38,F38.S),(115,Zts.S)]⟩
theorem Zwj:Zuo.S.Ok Tryz.prog 118:=Zuo.ok Tryz.func118 (by kernel_rfl) ⟨Zml,⟨Zqy,trivial⟩⟩
noncomputable def Zza (a b:LL):Option (LL):=Zuo.S.g [.l a,.l b]
noncomputable def Zli (k:Nat) (a b:LL) (c d:Int):Option (LL):=Zuo.lp [2] 0 r0 k [.l a,.l b,.i c,.i d]
theorem Zia (k:Nat) (b c:LL) (d a:Int):Zli (k+1) b c d a =
 (if (cop .lss a d) then
 Zm c a [.int .i64,.int .i64,.int .i64] fun (e:Int×Int×Int)=>
 (Zsk b e.1 e.2.1 e.2.2).bind fun f=>
 Zli k f c d (iop .add .i64 a 1)
 else
 some (b)):=by kernel_rfl
theorem Zsr (b a:LL):Zza b a =
 ((g38 b (List.length a:Int)).bind fun c=>
 Zli Zr c a (List.length a:Int) 0):=by kernel_rfl
noncomputable def Zuz:Fn:=⟨20,[],[(2,[(0,.box [.own false 5]),(10,.c (.slice 1)),(11,.c (.int .i64)),(12,.c (.int .i64))])],[0],0,[],[],Tryz.f119,[.box [.own false 5],.c (.slice 1)],[],[(38,F38.S)]⟩
theorem ZxQ:Zuz.S.Ok Tryz.prog 119:=Zuz.ok Tryz.func119 (by kernel_rfl) ⟨Zml,trivial⟩
noncomputable def Zu8 (a b:LL):Option (LL):=Zuz.S.g [.l a,.l b]
noncomputable def Zk8 (k:Nat) (a b:LL) (c d:Int):Option (LL):=Zuz.lp [2] 0 r0 k [.l a,.l b,.i c,.i d]
theorem Zgq (k:Nat) (b c:LL) (d a:Int):Zk8 (k+1) b c d a =
 (if (cop .lss a d) then
 Zm c a [.int .i64] fun (e:Int)=>
 (g38 b e).bind fun f=>
 Zk8 k f c d (iop .add .i64 a 1)
 else
 some (b)):=by kernel_rfl
theorem Zsz (b a:LL):Zu8 b a =
 ((g38 b (List.length a:Int)).bind fun c=>
 Zk8 Zr c a (List.length a:Int) 0):=by kernel_rfl
noncomputable def Zxu:Fn:=⟨16,[],[],[0],0,[],[],Tryz.f121,[.box [.own false 5],.agg [.int .i64,.slice 1,.slice 1]],[],[(38,F38.S),(119,Zuz.S)]⟩
theorem ZwO:Zxu.S.Ok Tryz.prog 121:=Zxu.ok Tryz.func121 (by kernel_rfl) ⟨Zml,⟨ZxQ,trivial⟩⟩
noncomputable def ZwQ (a:LL) (b:Int) (c d:LL):Option (LL):=Zxu.S.g [.l a,.i b,.l c,.l d]
theorem Zum (a:LL) (b:Int) (c d:LL):ZwQ a b c d =
 ((g38 a b).bind fun e=>
 (Zu8 e c).bind fun f=>
 (Zu8 f d).bind fun g=>
 some (g)):=by kernel_rfl
noncomputable def ZoS:Fn:=⟨126,[],[(3,[(0,.box [.own false 5]),(3,.box hs30),(20,.c (.slice 15)),(21,.c (.int .i64)),(22,.c (.int .i64))]),(11,[(0,.box [.own false 5]),(3,.box hs30),(45,.c (.slice 28)),(46,.c (.int .i64)),(47,.c (.int .i64))]),(17,[(0,.box [.own false 5]),(3,.box hs30),(61,.c (.slice 4)),(62,.c (.int .i64)),(63,.c (.int .i64))]),(24,[(0,.box [.own false 5]),(3,.box hs30),(82,.c (.slice 2)),(83,.c (.int .i64)),(84,.c (.int .i64))]),(31,[(0,.box [.own false 5]),(3,.box hs30),(103,.c (.slice 13)),(104,.c (.int .i64)),(105,.c (.int .i64))])],[0],0,[],[],Tryz.f122,[.box [.own false 5],.agg hs30],[],[(38,F38.S),(180,ZuF.S),(115,Zts.S),(114,Zv8.S),(118,Zuo.S)]⟩
theorem ZuQ:ZoS.S.Ok Tryz.prog 122:=ZoS.ok Tryz.func122 (by kernel_rfl) ⟨Zml,⟨ZtH,⟨Zqy,⟨ZxH,⟨Zwj,trivial⟩⟩⟩⟩⟩
noncomputable def ZwY (a b c d e f h:LL):Option (LL):=ZoS.S.g [.l a,.l b,.l c,.l d,.l e,.l f,.l h]
noncomputable def Zhv (k:Nat) (a b c d e f g h:LL) (j m:Int):Option (LL):=ZoS.lp [2,1,2,1,2,1,2,1,2] 0 r0 k [.l a,.l b,.l c,.l d,.l e,.l f,.l g,.l h,.i j,.i m]
theorem Zgs (k:Nat) (c g h i j l d e:LL) (f b:Int):Zhv (k+1) c g h i j l d e f b =
 (if (cop .lss b f) then
 Zm e b hs12 fun (a:Qt25)=>
 (g38 c a.1).bind fun m=>
 (g38 m a.2.1).bind fun n=>
 (Zuy n a.2.2.1 a.2.2.2.1 a.2.2.2.2.1 a.2.2.2.2.2.1 a.2.2.2.2.2.2.1 a.2.2.2.2.2.2.2.1 a.2.2.2.2.2.2.2.2.1 a.2.2.2.2.2.2.2.2.2.1 a.2.2.2.2.2.2.2.2.2.2.1 a.2.2.2.2.2.2.2.2.2.2.2.1 (d4 (d8 a))).bind fun o=>
 Zhv k o g h i j l d e f (iop .add .i64 b 1)
 else
 (Zza c d).bind fun a=>
 some (a)):=by kernel_rfl
noncomputable def ZgO (k:Nat) (a b c d e f g h:LL) (j m:Int):Option (LL):=ZoS.lp [2,1,2,1,2,1,2] 0 r0 k [.l a,.l b,.l c,.l d,.l e,.l f,.l g,.l h,.i j,.i m]
theorem ZhV (k:Nat) (d e f g h a i j:LL) (l b:Int):ZgO (k+1) d e f g h a i j l b =
 (if (cop .lss b l) then
 Zm j b [.int .i64,.int .i64] fun (c:Int×Int)=>
 (g38 d c.1).bind fun m=>
 (g38 m c.2).bind fun n=>
 ZgO k n e f g h a i j l (iop .add .i64 b 1)
 else
 (g38 d (List.length a:Int)).bind fun c=>
 Zhv Zr c e f g h a i a (List.length a:Int) 0):=by kernel_rfl
noncomputable def ZhK (k:Nat) (a b c d e f g h:LL) (j m:Int):Option (LL):=ZoS.lp [2,1,2,1,2] 0 r0 k [.l a,.l b,.l c,.l d,.l e,.l f,.l g,.l h,.i j,.i m]
theorem ZhS (k:Nat) (d e f g a h i j:LL) (l c:Int):ZhK (k+1) d e f g a h i j l c =
 (if (cop .lss c l) then
 Zm j c [.int .i64,.int .i64,.int .i64,.int .i64] fun (b:Int×Int×Int×Int)=>
 (g38 d b.1).bind fun m=>
 (Zsk m b.2.1 b.2.2.1 b.2.2.2).bind fun n=>
 ZhK k n e f g a h i j l (iop .add .i64 c 1)
 else
 (g38 d (List.length a:Int)).bind fun b=>
 ZgO Zr b e f g a h i a (List.length a:Int) 0):=by kernel_rfl
noncomputable def Zh0 (k:Nat) (a b c d e f g h:LL) (j m:Int):Option (LL):=ZoS.lp [2,1,2] 0 r0 k [.l a,.l b,.l c,.l d,.l e,.l f,.l g,.l h,.i j,.i m]
theorem ZgX (k:Nat) (d e f b g h i j:LL) (l c:Int):Zh0 (k+1) d e f b g h i j l c =
 (if (cop .lss c l) then
 Zm j c hs6 fun (a:Qt10)=>
 (ZyU d a.1 a.2.1 a.2.2.1 a.2.2.2.1 a.2.2.2.2.1 a.2.2.2.2.2.1 a.2.2.2.2.2.2.1 a.2.2.2.2.2.2.2.1 a.2.2.2.2.2.2.2.2.1 a.2.2.2.2.2.2.2.2.2.1 a.2.2.2.2.2.2.2.2.2.2.1 a.2.2.2.2.2.2.2.2.2.2.2.1 (d4 (d8 a)).1 (d4 (d8 a)).2.1 (d2 (d4 (d8 a))).1 (d2 (d4 (d8 a))).2.1 (d16 a).1 (d16 a).2.1 (d2 (d16 a)).1 (d2 (d16 a)).2.1 (d4 (d16 a)).1 (d4 (d16 a)).2.1 (d2 (d4 (d16 a))).1 (d2 (d4 (d16 a))).2.1 (d8 (d16 a)).1 (d8 (d16 a)).2.1 (d2 (d8 (d16 a))).1 (d2 (d8 (d16 a))).2).bind fun m=>
 Zh0 k m e f b g h i j l (iop .add .i64 c 1)
 else
 (g38 d (List.length b:Int)).bind fun a=>
 ZhK Zr a e f b g h i b (List.length b:Int) 0):=by kernel_rfl
noncomputable def Zgy (k:Nat) (a b c d e f g h:LL) (j m:Int):Option (LL):=ZoS.lp [2] 0 r0 k [.l a,.l b,.l c,.l d,.l e,.l f,.l g,.l h,.i j,.i m]
theorem ZgZ (k:Nat) (d e b f g h i j:LL) (l c:Int):Zgy (k+1) d e b f g h i j l c =
 (if (cop .lss c l) then
 Zm j c hs11 fun (a:Qt21)=>
 (Zuy d a.1 a.2.1 a.2.2.1 a.2.2.2.1 a.2.2.2.2.1 a.2.2.2.2.2.1 a.2.2.2.2.2.2.1 a.2.2.2.2.2.2.2.1 a.2.2.2.2.2.2.2.2.1 a.2.2.2.2.2.2.2.2.2.1 a.2.2.2.2.2.2.2.2.2.2.1).bind fun m=>
 (g38 m a.2.2.2.2.2.2.2.2.2.2.2.1).bind fun n=>
 (Zsk n (d4 (d8 a)).1 (d4 (d8 a)).2.1 (d2 (d4 (d8 a)))).bind fun o=>
 Zgy k o e b f g h i j l (iop .add .i64 c 1)
 else
 (g38 d (List.length b:Int)).bind fun a=>
 Zh0 Zr a e b f g h i b (List.length b:Int) 0):=by kernel_rfl
theorem Zt2 (b a c d e f g:LL):ZwY b a c d e f g =
 ((g38 b (List.length a:Int)).bind fun h=>
 Zgy Zr h a c d e f g a (List.length a:Int) 0):=by kernel_rfl
noncomputable def Zyr:Fn:=⟨28,[],[],[0],0,[],[],Tryz.f120,[.box [.own false 5],.agg hs7],[],[(38,F38.S),(121,Zxu.S),(122,ZoS.S),(116,ZvS.S)]⟩
theorem ZAK:Zyr.S.Ok Tryz.prog 120:=Zyr.ok Tryz.func120 (by kernel_rfl) ⟨Zml,⟨ZwO,⟨ZuQ,⟨Zwo,trivial⟩⟩⟩⟩
noncomputable def ZB5 (a:LL) (c d:Int) (e f h j k m n o:LL) (p:Bool) (q:Int) (r s t u v w x y:LL):Option (LL):=Zyr.S.g [.l a,.i c,.i d,.l e,.l f,.l h,.l j,.l k,.l m,.l n,.l o,.b p,.i q,.l r,.l s,.l t,.l u,.l v,.l w,.l x,.l y]
theorem ZsZ (a:LL) (b c:Int) (d e f g h i j k:LL) (l:Bool) (m:Int) (n o p q r s t u:LL):ZB5 a b c d e f g h i j k l m n o p q r s t u =
 ((g38 a b).bind fun v=>
 (ZwQ v c d e).bind fun w=>
 (ZwY w f g h i j k).bind fun x=>
 (Zzh x l).bind fun y=>
 (ZwQ y m n o).bind fun z=>
 (ZwY z p q r s t u).bind fun A=>
 some (A)):=by kernel_rfl
noncomputable def ZuV:Fn:=⟨25,[],[(2,[(0,.box [.own false 5]),(10,.c (.slice 2)),(11,.c (.int .i64)),(12,.c (.int .i64))])],[0],0,[],[],Tryz.f123,[.box [.own false 5],.c (.slice 2)],[],[(38,F38.S)]⟩
theorem ZzF:ZuV.S.Ok Tryz.prog 123:=ZuV.ok Tryz.func123 (by kernel_rfl) ⟨Zml,trivial⟩
noncomputable def ZzL (a b:LL):Option (LL):=ZuV.S.g [.l a,.l b]
noncomputable def Zk3 (k:Nat) (a b:LL) (c d:Int):Option (LL):=ZuV.lp [2] 0 r0 k [.l a,.l b,.i c,.i d]
theorem ZhA (k:Nat) (b c:LL) (d a:Int):Zk3 (k+1) b c d a =
 (if (cop .lss a d) then
 Zm c a [.int .i64,.int .i64] fun (e:Int×Int)=>
 (g38 b e.1).bind fun f=>
 (g38 f e.2).bind fun g=>
 Zk3 k g c d (iop .add .i64 a 1)
 else
 some (b)):=by kernel_rfl
theorem ZrR (b a:LL):ZzL b a =
 ((g38 b (List.length a:Int)).bind fun c=>
 Zk3 Zr c a (List.length a:Int) 0):=by kernel_rfl
noncomputable def F39:Fn:=⟨97,[],[],[0],0,[],[],Tryz.f39,[.box [.own false 5],.agg hs0,.c (.int .i64)],[],[(38,F38.S),(114,Zv8.S),(115,Zts.S),(116,ZvS.S),(117,Zvk.S),(118,Zuo.S),(119,Zuz.S),(120,Zyr.S),(121,Zxu.S),(122,ZoS.S),(123,ZuV.S)]⟩
theorem ZEx:F39.S.Ok Tryz.prog 39:=F39.ok Tryz.func39 (by kernel_rfl) ⟨Zml,⟨ZxH,⟨Zqy,⟨Zwo,⟨ZAC,⟨Zwj,⟨ZxQ,⟨ZAK,⟨ZwO,⟨ZuQ,⟨ZzF,trivial⟩⟩⟩⟩⟩⟩⟩⟩⟩⟩⟩
noncomputable def g39 (a:LL) (c d e f h j k m n o p:Int) (q:Bool) (r s t u v w x y z A C D E G H J K L M N:Int) (O:LL) (P Q R T U V:Int) (W:Bool) (X Y Z aa:LL) (ab ac:Int) (ad ae af ag ah ai aj ak:LL) (al am:Int) (an ao ap aq ar aZ au av:LL) (aw:Bool) (ax:Int) (ay az a0 a1 a2 a3 a4 a5:LL) (a6:Int):Option (LL):=F39.S.g [.l a,.i c,.i d,.i e,.i f,.i h,.i j,.i k,.i m,.i n,.i o,.i p,.b q,.i r,.i s,.i t,.i u,.i v,.i w,.i x,.i y,.i z,.i A,.i C,.i D,.i E,.i G,.i H,.i J,.i K,.i L,.i M,.i N,.l O,.i P,.i Q,.i R,.i T,.i U,.i V,.b W,.l X,.l Y,.l Z,.l aa,.i ab,.i ac,.l ad,.l ae,.l af,.l ag,.l ah,.l ai,.l aj,.l ak,.i al,.i am,.l an,.l ao,.l ap,.l aq,.l ar,.l aZ,.l au,.l av,.b aw,.i ax,.l ay,.l az,.l a0,.l a1,.l a2,.l a3,.l a4,.l a5,.i a6]
theorem KW (b:LL) (x1 x2 x3 x4 d e f g h i j:Int) (k:Bool) (l m n o p q r s t u v w x y z A C D E G:Int) (H:LL) (J K L M N O:Int) (P:Bool) (Q R T U:LL) (V W:Int) (X Y Z aa ab ac ad ae:LL) (af ag:Int) (ah ai aj ak al am an ao:LL) (ap:Bool) (aq:Int) (ar aZ au av aw ax ay az:LL) (c:Int):g39 b x1 x2 x3 x4 d e f g h i j k l m n o p q r s t u v w x y z A C D E G H J K L M N O P Q R T U V W X Y Z aa ab ac ad ae af ag ah ai aj ak al am an ao ap aq ar aZ au av aw ax ay az c =
 (if (cop .eql c 0) then
 (g38 b e).bind fun a=>
 some (a)
 else
 if (cop .eql c 1) then
 (ZyU b l m n o p q r s t u v w x y z A C D E G H J K L M N O P).bind fun a=>
 some (a)
 else
 if (cop .eql c 2) then
 (Zsk b g h i).bind fun a=>
 some (a)
 else
 if (cop .eql c 3) then
 (g38 b j).bind fun a=>
 some (a)
 else
 if (cop .eql c 4) then
 (Zzh b k).bind fun a=>
 some (a)
 else
 if (cop .eql c 5) then
 (ZzT b R).bind fun a=>
 some (a)
 else
 if (cop .eql c 6) then
 (g38 b f).bind fun a=>
 some (a)
 else
 if (cop .eql c 7) then
 (Zza b Q).bind fun a=>
 some (a)
 else
 if (cop .eql c 8) then
 (g38 b d).bind fun a=>
 some (a)
 else
 if (cop .eql c 9) then
 (Zu8 b T).bind fun a=>
 some (a)
 else
 if (cop .eql c 10) then
 (ZB5 b af ag ah ai aj ak al am an ao ap aq ar aZ au av aw ax ay az).bind fun a=>
 some (a)
 else
 if (cop .eql c 11) then
 (g38 b V).bind fun a=>
 some (a)
 else
 if (cop .eql c 12) then
 (ZwQ b W X Y).bind fun a=>
 some (a)
 else
 if (cop .eql c 13) then
 (ZwY b Z aa ab ac ad ae).bind fun a=>
 some (a)
 else
 if (cop .eql c 14) then
 (ZzL b U).bind fun a=>
 some (a)
 else
 some (b)):=by kernel_rfl
noncomputable def F14:Fn:=⟨55,[2,3],[(5,[(1,.box hs0),(4,.ptr 15 0),(24,.c (.slice 1)),(25,.c (.int .i64)),(26,.c (.int .i64)),(15,.box [.own false 5])]),(11,[(1,.box hs0),(4,.ptr 15 0),(40,.c (.slice 1)),(41,.c (.int .i64)),(42,.c (.int .i64)),(15,.box [.own false 5])])],[],0,[],[],Tryz.f14,[.agg hs0],[.c (.own false 5),.c (.int .i64)],[(12,F12.S),(38,F38.S),(32,F32.S),(39,F39.S)]⟩
theorem ZAX:F14.S.Ok Tryz.prog 14:=F14.ok Tryz.func14 (by kernel_rfl) ⟨ZA6,⟨Zml,⟨ZCj,⟨ZEx,trivial⟩⟩⟩⟩
noncomputable def g14 (a c d e f h j k m n o:Int) (p:Bool) (q r s t u v w x y z A C D E G H J K L M:Int) (N:LL) (O P Q R T U:Int) (V:Bool) (W X Y Z:LL) (aa ab:Int) (ac ad ae af ag ah ai aj:LL) (ak al:Int) (am an ao ap aq ar aZ au:LL) (av:Bool) (aw:Int) (ax ay az a0 a1 a2 a3 a4:LL):Option (LL×Int):=F14.S.g [.i a,.i c,.i d,.i e,.i f,.i h,.i j,.i k,.i m,.i n,.i o,.b p,.i q,.i r,.i s,.i t,.i u,.i v,.i w,.i x,.i y,.i z,.i A,.i C,.i D,.i E,.i G,.i H,.i J,.i K,.i L,.i M,.l N,.i O,.i P,.i Q,.i R,.i T,.i U,.b V,.l W,.l X,.l Y,.l Z,.i aa,.i ab,.l ac,.l ad,.l ae,.l af,.l ag,.l ah,.l ai,.l aj,.i ak,.i al,.l am,.l an,.l ao,.l ap,.l aq,.l ar,.l aZ,.l au,.b av,.i aw,.l ax,.l ay,.l az,.l a0,.l a1,.l a2,.l a3,.l a4]
noncomputable def ZmB (k:Nat) (a c d e f g h j m n o:Int) (p:Bool) (q r s t u v w x y z A C D E G H J K L M:Int) (N:LL) (O P Q R T U:Int) (V:Bool) (W X Y Z:LL) (aa ab:Int) (ac ad ae af ag ah ai aj:LL) (ak al:Int) (am an ao ap aq ar aZ au:LL) (av:Bool) (aw:Int) (ax ay az a0 a1 a2 a3 a4 a5:LL) (a6 a7:Int) (a8:LL):Option (LL×Int):=F14.lp [0,1,0,1,2] 0 r0 k [.i a,.i c,.i d,.i e,.i f,.i g,.i h,.i j,.i m,.i n,.i o,.b p,.i q,.i r,.i s,.i t,.i u,.i v,.i w,.i x,.i y,.i z,.i A,.i C,.i D,.i E,.i G,.i H,.i J,.i K,.i L,.i M,.l N,.i O,.i P,.i Q,.i R,.i T,.i U,.b V,.l W,.l X,.l Y,.l Z,.i aa,.i ab,.l ac,.l ad,.l ae,.l af,.l ag,.l ah,.l ai,.l aj,.i ak,.i al,.l am,.l an,.l ao,.l ap,.l aq,.l ar,.l aZ,.l au,.b av,.i aw,.l ax,.l ay,.l az,.l a0,.l a1,.l a2,.l a3,.l a4,.l a5,.i a6,.i a7,.l a8]
theorem Zkg (k:Nat) (b c d e f g h i j l m:Int) (n:Bool) (o p q r s t u v w x y z A C D E G H J K:Int) (L:LL) (M N O P Q R:Int) (T:Bool) (U V W X:LL) (Y Z:Int) (aa ab ac ad ae af ag ah:LL) (ai aj:Int) (ak al am an ao ap aq ar:LL) (aZ:Bool) (au:Int) (av aw ax ay az a0 a1 a2 a3:LL) (a4 a:Int) (a5:LL):ZmB (k+1) b c d e f g h i j l m n o p q r s t u v w x y z A C D E G H J K L M N O P Q R T U V W X Y Z aa ab ac ad ae af ag ah ai aj ak al am an ao ap aq ar aZ au av aw ax ay az a0 a1 a2 a3 a4 a a5 =
 (if (cop .lss a a4) then
 Zm a3 a [.int .i64] fun (a6:Int)=>
 (g39 a5 b c d e f g h i j l m n o p q r s t u v w x y z A C D E G H J K L M N O P Q R T U V W X Y Z aa ab ac ad ae af ag ah ai aj ak al am an ao ap aq ar aZ au av aw ax ay az a0 a1 a2 a6).bind fun a7=>
 ZmB k b c d e f g h i j l m n o p q r s t u v w x y z A C D E G H J K L M N O P Q R T U V W X Y Z aa ab ac ad ae af ag ah ai aj ak al am an ao ap aq ar aZ au av aw ax ay az a0 a1 a2 a3 a4 (iop .add .i64 a 1) a7
 else
 some (a5,0)):=by kernel_rfl
noncomputable def Zo1 (k:Nat) (a c d e f g h j m n o:Int) (p:Bool) (q r s t u v w x y z A C D E G H J K L M:Int) (N:LL) (O P Q R T U:Int) (V:Bool) (W X Y Z:LL) (aa ab:Int) (ac ad ae af ag ah ai aj:LL) (ak al:Int) (am an ao ap aq ar aZ au:LL) (av:Bool) (aw:Int) (ax ay az a0 a1 a2 a3 a4 a5:LL) (a6 a7:Int) (a8:LL):Option (LL×Int):=F14.lp [0,1,0] 0 r0 k [.i a,.i c,.i d,.i e,.i f,.i g,.i h,.i j,.i m,.i n,.i o,.b p,.i q,.i r,.i s,.i t,.i u,.i v,.i w,.i x,.i y,.i z,.i A,.i C,.i D,.i E,.i G,.i H,.i J,.i K,.i L,.i M,.l N,.i O,.i P,.i Q,.i R,.i T,.i U,.b V,.l W,.l X,.l Y,.l Z,.i aa,.i ab,.l ac,.l ad,.l ae,.l af,.l ag,.l ah,.l ai,.l aj,.i ak,.i al,.l am,.l an,.l ao,.l ap,.l aq,.l ar,.l aZ,.l au,.b av,.i aw,.l ax,.l ay,.l az,.l a0,.l a1,.l a2,.l a3,.l a4,.l a5,.i a6,.i a7,.l a8]
theorem Zkk (k:Nat) (a d e f g h i j l m n:Int) (o:Bool) (p q r s t u v w x y z A C D E G H J K L:Int) (M:LL) (N O P Q R T:Int) (U:Bool) (V W X Y:LL) (Z aa:Int) (ab ac ad ae af ag ah ai:LL) (aj ak:Int) (al am an ao ap aq ar aZ:LL) (au:Bool) (av:Int) (aw ax ay az a0 a1 a2 a3 a4:LL) (a5 b:Int) (a6:LL):Zo1 (k+1) a d e f g h i j l m n o p q r s t u v w x y z A C D E G H J K L M N O P Q R T U V W X Y Z aa ab ac ad ae af ag ah ai aj ak al am an ao ap aq ar aZ au av aw ax ay az a0 a1 a2 a3 a4 a5 b a6 =
 (if (cop .lss b a5) then
 Zm a4 b [.int .i64] fun (c:Int)=>
 (g38 a6 c).bind fun a7=>
 Zo1 k a d e f g h i j l m n o p q r s t u v w x y z A C D E G H J K L M N O P Q R T U V W X Y Z aa ab ac ad ae af ag ah ai aj ak al am an ao ap aq ar aZ au av aw ax ay az a0 a1 a2 a3 a4 a5 (iop .add .i64 b 1) a7
 else
 (g32 a).bind fun c=>
 ZmB Zr a d e f g h i j l m n o p q r s t u v w x y z A C D E G H J K L M N O P Q R T U V W X Y Z aa ab ac ad ae af ag ah ai aj ak al am an ao ap aq ar aZ au av aw ax ay az a0 a1 a2 a3 c.1 (List.length c.1:Int) 0 a6):=by kernel_rfl
theorem Zxy (a b c d e f g h i j k:Int) (l:Bool) (m n o p q r s t u v w x y z A C D E G H:Int) (J:LL) (K L M N O P:Int) (Q:Bool) (R T U V:LL) (W X:Int) (Y Z aa ab ac ad ae af:LL) (ag ah:Int) (ai aj ak al am an ao ap:LL) (aq:Bool) (ar:Int) (aZ au av aw ax ay az a0:LL):g14 a b c d e f g h i j k l m n o p q r s t u v w x y z A C D E G H J K L M N O P Q R T U V W X Y Z aa ab ac ad ae af ag ah ai aj ak al am an ao ap aq ar aZ au av aw ax ay az a0 =
 ((g12 a b c d e f g h i j k l m n o p q r s t u v w x y z A C D E G H J K L M N O P Q R T U V W X Y Z aa ab ac ad ae af ag ah ai aj ak al am an ao ap aq ar aZ au av aw ax ay az a0).bind fun a1=>
 if (!a1) then
 some (E0,1)
 else
 Zo1 Zr a b c d e f g h i j k l m n o p q r s t u v w x y z A C D E G H J K L M N O P Q R T U V W X Y Z aa ab ac ad ae af ag ah ai aj ak al am an ao ap aq ar aZ au av aw ax ay az a0 ((((E0++[[AV.val (.int .i64 a)]])++[[AV.val (.int .i64 b)]])++[[AV.val (.int .i64 c)]])++[[AV.val (.int .i64 d)]]) (List.length ((((E0++[[AV.val (.int .i64 a)]])++[[AV.val (.int .i64 b)]])++[[AV.val (.int .i64 c)]])++[[AV.val (.int .i64 d)]]):Int) 0 E0):=by kernel_rfl
noncomputable def ZrX:Fn:=⟨21,[4],[(1,[(0,.c (.own true 5)),(1,.c (.int .i64))])],[],0,[4,13,20],[],Tryz.f124,[.c (.own true 5),.c (.int .i64)],[.c (.own true 5)],[]⟩
theorem ZsC:ZrX.S.Ok Tryz.prog 124:=ZrX.ok Tryz.func124 (by kernel_rfl) trivial
noncomputable def Ztq (a:LL) (b:Int):Option (LL):=ZrX.S.g [.l a,.i b]
noncomputable def ZgK (k:Nat) (a:LL) (b:Int):Option (LL):=ZrX.lp [0] 0 r0 k [.l a,.i b]
theorem ZgP (k:Nat) (b:LL) (a:Int):ZgK (k+1) b a =
 (if (cop .geq a 128) then
 ZE ((128:Int)≠0)<|
 ZE (Jy b (E0++[[AV.val (.int .u8 (IntKind.wrap .u8 (iop .add .i64 (iop .rem .i64 a 128) 128)))]]) 1)<|
 ZE ((128:Int)≠0)<|
 ZgK k (b++(E0++[[AV.val (.int .u8 (IntKind.wrap .u8 (iop .add .i64 (iop .rem .i64 a 128) 128)))]])) (iop .quo .i64 a 128)
 else
 ZE (Jy b (E0++[[AV.val (.int .u8 (IntKind.wrap .u8 a))]]) 1)<|
 some ((b++(E0++[[AV.val (.int .u8 (IntKind.wrap .u8 a))]])))):=by kernel_rfl
theorem Zr1 (a:LL) (b:Int):Ztq a b =
 (ZgK Zr a b):=by kernel_rfl
noncomputable def F40:Fn:=⟨8,[4],[],[],0,[4],[],Tryz.f40,[.c (.own true 5),.c (.int .i64)],[.c (.own true 5)],[(124,ZrX.S)]⟩
theorem ZpK:F40.S.Ok Tryz.prog 40:=F40.ok Tryz.func40 (by kernel_rfl) ⟨ZsC,trivial⟩
noncomputable def g40 (a:LL) (b:Int):Option (LL):=F40.S.g [.l a,.i b]
theorem Zw8 (a:LL) (b:Int):g40 a b =
 ((Ztq a b).bind fun c=>
 some (c)):=by kernel_rfl
noncomputable def F43:Fn:=⟨15,[4],[],[],0,[4],[],Tryz.f43,[.c (.own true 5),.agg [.int .i64,.int .i64,.int .i64]],[.c (.own true 5)],[(124,ZrX.S)]⟩
theorem ZxO:F43.S.Ok Tryz.prog 43:=F43.ok Tryz.func43 (by kernel_rfl) ⟨ZsC,trivial⟩
noncomputable def g43 (a:LL) (b c d:Int):Option (LL):=F43.S.g [.l a,.i b,.i c,.i d]
theorem Zrg (a:LL) (b c d:Int):g43 a b c d =
 ((Ztq a b).bind fun e=>
 (Ztq e c).bind fun f=>
 (Ztq f d).bind fun g=>
 some (g)):=by kernel_rfl
noncomputable def Zxt:Fn:=⟨29,[4],[(4,[(0,.c (.own true 5)),(5,.c (.int .u64))])],[],0,[4,21,28],[],Tryz.f182,[.c (.own true 5),.c (.int .i64)],[.c (.own true 5)],[]⟩
theorem ZAf:Zxt.S.Ok Tryz.prog 182:=Zxt.ok Tryz.func182 (by kernel_rfl) trivial
noncomputable def Zzt (a:LL) (b:Int):Option (LL):=Zxt.S.g [.l a,.i b]
noncomputable def Zeb (k:Nat) (a:LL) (b:Int):Option (LL):=Zxt.lp [2,0] 0 r0 k [.l a,.i b]
theorem Zg5 (k:Nat) (b:LL) (a:Int):Zeb (k+1) b a =
 (if (cop .geq a 128) then
 ZE ((128:Int)≠0)<|
 ZE (Jy b (E0++[[AV.val (.int .u8 (IntKind.wrap .u8 (iop .add .u64 (iop .rem .u64 a 128) 128)))]]) 1)<|
 ZE ((128:Int)≠0)<|
 Zeb k (b++(E0++[[AV.val (.int .u8 (IntKind.wrap .u8 (iop .add .u64 (iop .rem .u64 a 128) 128)))]])) (iop .quo .u64 a 128)
 else
 ZE (Jy b (E0++[[AV.val (.int .u8 (IntKind.wrap .u8 a))]]) 1)<|
 some ((b++(E0++[[AV.val (.int .u8 (IntKind.wrap .u8 a))]])))):=by kernel_rfl
theorem ZrU (b:LL) (a:Int):Zzt b a =
 (ZE ((0:Int)≤1)<|
 if (cop .lss a 0) then
 Zeb Zr b (iop .xor .u64 18446744073709551615 (iop .shl .u64 (IntKind.wrap .u64 a) 1))
 else
 Zeb Zr b (iop .shl .u64 (IntKind.wrap .u64 a) 1)):=by kernel_rfl
noncomputable def Zwz:Fn:=⟨45,[4],[(3,[(0,.c (.own true 5)),(5,.c (.own true 3)),(6,.c (.int .i64))])],[],0,[4,31],[],Tryz.f125,[.c (.own true 5),.agg hs13],[.c (.own true 5)],[(182,Zxt.S)]⟩
theorem ZCp:Zwz.S.Ok Tryz.prog 125:=Zwz.ok Tryz.func125 (by kernel_rfl) ⟨ZAf,trivial⟩
noncomputable def ZAZ (a:LL) (b c d e f h j k m n o p:Int):Option (LL):=Zwz.S.g [.l a,.i b,.i c,.i d,.i e,.i f,.i h,.i j,.i k,.i m,.i n,.i o,.i p]
noncomputable def ZgA (k:Nat) (a b:LL) (c:Int):Option (LL):=Zwz.lp [0] 0 r0 k [.l a,.l b,.i c]
theorem ZhL (k:Nat) (c b:LL) (a:Int):ZgA (k+1) c b a =
 (if (cop .lss a (List.length b:Int)) then
 ZE ((0:Int)≤a)<|
 ZE ((a:Int) < (List.length b:Int))<|
 Zm b a [.int .i64] fun (d:Int)=>
 (Zzt c d).bind fun e=>
 ZgA k e b (iop .add .i64 a 1)
 else
 some (c)):=by kernel_rfl
theorem ZtS (a:LL) (b c d e f g h i j k l m:Int):ZAZ a b c d e f g h i j k l m =
 (ZgA Zr a ((((((((((((E0++[[AV.val (.int .i64 b)]])++[[AV.val (.int .i64 c)]])++[[AV.val (.int .i64 d)]])++[[AV.val (.int .i64 e)]])++[[AV.val (.int .i64 f)]])++[[AV.val (.int .i64 g)]])++[[AV.val (.int .i64 h)]])++[[AV.val (.int .i64 i)]])++[[AV.val (.int .i64 j)]])++[[AV.val (.int .i64 k)]])++[[AV.val (.int .i64 l)]])++[[AV.val (.int .i64 m)]]) 0):=by kernel_rfl
noncomputable def Zvn:Fn:=⟨47,[2,3],[(8,[(1,.box hs27),(5,.c (.own true 5)),(6,.c (.int .i64))])],[],0,[2,30,45],[],Tryz.f183,[.agg hs27],[.c (.own true 5),.c (.int .i64)],[(130,Zug.S)]⟩
theorem ZCC:Zvn.S.Ok Tryz.prog 183:=Zvn.ok Tryz.func183 (by kernel_rfl) ⟨ZqX,trivial⟩
noncomputable def ZA5 (a c d e f h:Int) (j:Bool):Option (LL×Int):=Zvn.S.g [.i a,.i c,.i d,.i e,.i f,.i h,.b j]
noncomputable def ZgL (k:Nat) (a c d e f g:Int) (h:Bool) (j:LL) (m:Int):Option (LL×Int):=Zvn.lp [0,1,0,0] 0 r0 k [.i a,.i c,.i d,.i e,.i f,.i g,.b h,.l j,.i m]
theorem Vu (k:Nat) (d b e f g h:Int) (i:Bool) (c:LL) (a:Int):ZgL (k+1) d b e f g h i c a =
 (if (cop .lss a 5) then
 ZE ((0:Int)≤(IntKind.wrap .u64 (iop .mul .i64 8 a)))<|
 ZE (Jy c (E0++[[AV.val (.int .u8 (IntKind.wrap .u8 (iop .and .i64 (iop .shr .i64 b (IntKind.wrap .u64 (iop .mul .i64 8 a))) 255)))]]) 1)<|
 ZgL k d b e f g h i (c++(E0++[[AV.val (.int .u8 (IntKind.wrap .u8 (iop .and .i64 (iop .shr .i64 b (IntKind.wrap .u64 (iop .mul .i64 8 a))) 255)))]])) (iop .add .i64 a 1)
 else
 some (c,0)):=by kernel_rfl
theorem Zsx (a g b c d e:Int) (f:Bool):ZA5 a g b c d e f =
 ((ZuM a g b c d e f).bind fun h=>
 if (!h) then
 some (E0,1)
 else
 if f then
 ZgL Zr a g b c d e f (((((E0++[[AV.val (.int .u8 (IntKind.wrap .u8 a))]])++[[AV.val (.int .u8 (IntKind.wrap .u8 b))]])++[[AV.val (.int .u8 (IntKind.wrap .u8 (iop .add .i64 c 8)))]])++[[AV.val (.int .u8 (IntKind.wrap .u8 d))]])++[[AV.val (.int .u8 (IntKind.wrap .u8 e))]]) 0
 else
 ZgL Zr a g b c d e f (((((E0++[[AV.val (.int .u8 (IntKind.wrap .u8 a))]])++[[AV.val (.int .u8 (IntKind.wrap .u8 b))]])++[[AV.val (.int .u8 (IntKind.wrap .u8 c))]])++[[AV.val (.int .u8 (IntKind.wrap .u8 d))]])++[[AV.val (.int .u8 (IntKind.wrap .u8 e))]]) 0):=by kernel_rfl
noncomputable def Zw7:Fn:=⟨41,[2,3],[(5,[(1,.box hs16),(4,.c (.own true 5)),(5,.c (.int .i64))])],[],0,[2,40],[(9,[(6,0)])],Tryz.f126,[.agg hs16],[.c (.own true 5),.c (.int .i64)],[(61,F61.S),(43,F43.S),(124,ZrX.S),(183,Zvn.S)]⟩
theorem ZzO:Zw7.S.Ok Tryz.prog 126:=Zw7.ok Tryz.func126 (by kernel_rfl) ⟨Zuw,⟨ZxO,⟨ZsC,⟨ZCC,trivial⟩⟩⟩⟩
noncomputable def ZB1 (a c d:Int) (e:LL) (f h j k m n:Int) (o:Bool):Option (LL×Int):=Zw7.S.g [.i a,.i c,.i d,.l e,.i f,.i h,.i j,.i k,.i m,.i n,.b o]
noncomputable def Zke (k:Nat) (a c d:Int) (e:LL) (f g h j m n:Int) (o:Bool) (p:LL) (q:Int):Option (LL×Int):=Zw7.lp [0,1,3] 0 r0 k [.i a,.i c,.i d,.l e,.i f,.i g,.i h,.i j,.i m,.i n,.b o,.l p,.i q]
theorem Zg4 (k:Nat) (m n o:Int) (b:LL) (e f g h i j:Int) (l:Bool) (c:LL) (d:Int):Zke (k+1) m n o b e f g h i j l c d =
 (if (cop .lss d (List.length b:Int)) then
 Zm b d [.int .i64,.int .i64,.int .i64] fun (a:Int×Int×Int)=>
 (g43 c a.1 a.2.1 a.2.2).bind fun p=>
 Zke k m n o b e f g h i j l p (iop .add .i64 d 1)
 else
 (ZA5 e f g h i j l).bind fun a=>
 ZE (Jy c a.1 1)<|
 some ((c++a.1),0)):=by kernel_rfl
theorem ZrG (a b c:Int) (d:LL) (e f g h i j:Int) (k:Bool):ZB1 a b c d e f g h i j k =
 ((g61 a b c d e f g h i j k).bind fun l=>
 if (!l) then
 some (E0,1)
 else
 (g43 E0 a b c).bind fun m=>
 (Ztq m (List.length d:Int)).bind fun n=>
 Zke Zr a b c d e f g h i j k n 0):=by kernel_rfl
noncomputable def F49:Fn:=⟨18,[4],[],[],0,[4,17],[(2,[(5,0)])],Tryz.f49,[.c (.own true 5),.agg hs16],[.c (.own true 5)],[(126,Zw7.S),(40,F40.S)]⟩
theorem ZCH:F49.S.Ok Tryz.prog 49:=F49.ok Tryz.func49 (by kernel_rfl) ⟨ZzO,⟨ZpK,trivial⟩⟩
noncomputable def g49 (a:LL) (c d e:Int) (f:LL) (h j k m n o:Int) (p:Bool):Option (LL):=F49.S.g [.l a,.i c,.i d,.i e,.l f,.i h,.i j,.i k,.i m,.i n,.i o,.b p]
theorem Zxp (b:LL) (c d e:Int) (f:LL) (g h i j k l:Int) (m:Bool):g49 b c d e f g h i j k l m =
 ((ZB1 c d e f g h i j k l m).bind fun a=>
 (g40 b (List.length a.1:Int)).bind fun n=>
 ZE (Jy n a.1 1)<|
 some ((n++a.1))):=by kernel_rfl
noncomputable def F41:Fn:=⟨22,[4],[],[],0,[4],[],Tryz.f41,[.c (.own true 5),.agg hs6],[.c (.own true 5)],[(43,F43.S),(125,Zwz.S),(40,F40.S),(49,F49.S)]⟩
theorem ZDp:F41.S.Ok Tryz.prog 41:=F41.ok Tryz.func41 (by kernel_rfl) ⟨ZxO,⟨ZCp,⟨ZpK,⟨ZCH,trivial⟩⟩⟩⟩
noncomputable def g41 (a:LL) (c d e f h j k m n o p q r s t u v w x y:Int) (z:LL) (A C D E G H:Int) (J:Bool):Option (LL):=F41.S.g [.l a,.i c,.i d,.i e,.i f,.i h,.i j,.i k,.i m,.i n,.i o,.i p,.i q,.i r,.i s,.i t,.i u,.i v,.i w,.i x,.i y,.l z,.i A,.i C,.i D,.i E,.i G,.i H,.b J]
theorem ZwW (a:LL) (b c d e f g h i j k l m n o p q r s t u:Int) (v:LL) (w x y z A C:Int) (D:Bool):g41 a b c d e f g h i j k l m n o p q r s t u v w x y z A C D =
 ((g43 a b c d).bind fun E=>
 (ZAZ E e f g h i j k l m n o p).bind fun G=>
 (g40 G q).bind fun H=>
 (g40 H r).bind fun J=>
 (g49 J s t u v w x y z A C D).bind fun K=>
 some (K)):=by kernel_rfl
noncomputable def F42:Fn:=⟨10,[4],[],[],0,[4],[],Tryz.f42,[.c (.own true 5),.c (.bool)],[.c (.own true 5)],[(40,F40.S)]⟩
theorem ZDq:F42.S.Ok Tryz.prog 42:=F42.ok Tryz.func42 (by kernel_rfl) ⟨ZpK,trivial⟩
noncomputable def g42 (a:LL) (c:Bool):Option (LL):=F42.S.g [.l a,.b c]
theorem Zwl (a:LL) (c:Bool):g42 a c =
 (if c then
 (g40 a 1).bind fun b=>
 some (b)
 else
 (g40 a 0).bind fun b=>
 some (b)):=by kernel_rfl
noncomputable def F44:Fn:=⟨23,[4],[(3,[(0,.c (.own true 5)),(1,.c (.slice 3)),(5,.c (.int .i64))])],[],0,[4],[],Tryz.f44,[.c (.own true 5),.c (.slice 3)],[.c (.own true 5)],[(40,F40.S),(43,F43.S)]⟩
theorem ZCT:F44.S.Ok Tryz.prog 44:=F44.ok Tryz.func44 (by kernel_rfl) ⟨ZpK,⟨ZxO,trivial⟩⟩
noncomputable def g44 (a b:LL):Option (LL):=F44.S.g [.l a,.l b]
noncomputable def ZpV (k:Nat) (a b:LL) (c:Int):Option (LL):=F44.lp [2] 0 r0 k [.l a,.l b,.i c]
theorem ZjR (k:Nat) (c a:LL) (b:Int):ZpV (k+1) c a b =
 (if (cop .lss b (List.length a:Int)) then
 Zm a b [.int .i64,.int .i64,.int .i64] fun (d:Int×Int×Int)=>
 (g43 c d.1 d.2.1 d.2.2).bind fun e=>
 ZpV k e a (iop .add .i64 b 1)
 else
 some (c)):=by kernel_rfl
theorem ZwB (b a:LL):g44 b a =
 ((g40 b (List.length a:Int)).bind fun c=>
 ZpV Zr c a 0):=by kernel_rfl
noncomputable def F45:Fn:=⟨23,[4],[(3,[(0,.c (.own true 5)),(1,.c (.slice 1)),(5,.c (.int .i64))])],[],0,[4],[],Tryz.f45,[.c (.own true 5),.c (.slice 1)],[.c (.own true 5)],[(40,F40.S)]⟩
theorem ZC4:F45.S.Ok Tryz.prog 45:=F45.ok Tryz.func45 (by kernel_rfl) ⟨ZpK,trivial⟩
noncomputable def g45 (a b:LL):Option (LL):=F45.S.g [.l a,.l b]
noncomputable def ZpI (k:Nat) (a b:LL) (c:Int):Option (LL):=F45.lp [2] 0 r0 k [.l a,.l b,.i c]
theorem Zkx (k:Nat) (c a:LL) (b:Int):ZpI (k+1) c a b =
 (if (cop .lss b (List.length a:Int)) then
 Zm a b [.int .i64] fun (d:Int)=>
 (g40 c d).bind fun e=>
 ZpI k e a (iop .add .i64 b 1)
 else
 some (c)):=by kernel_rfl
theorem ZvB (b a:LL):g45 b a =
 ((g40 b (List.length a:Int)).bind fun c=>
 ZpI Zr c a 0):=by kernel_rfl
noncomputable def F48:Fn:=⟨15,[4],[],[],0,[4],[],Tryz.f48,[.c (.own true 5),.agg [.int .i64,.slice 1,.slice 1]],[.c (.own true 5)],[(40,F40.S),(45,F45.S)]⟩
theorem ZDo:F48.S.Ok Tryz.prog 48:=F48.ok Tryz.func48 (by kernel_rfl) ⟨ZpK,⟨ZC4,trivial⟩⟩
noncomputable def g48 (a:LL) (b:Int) (c d:LL):Option (LL):=F48.S.g [.l a,.i b,.l c,.l d]
theorem Zxn (a:LL) (b:Int) (c d:LL):g48 a b c d =
 ((g40 a b).bind fun e=>
 (g45 e c).bind fun f=>
 (g45 f d).bind fun g=>
 some (g)):=by kernel_rfl
noncomputable def F47:Fn:=⟨155,[4],[(3,[(0,.c (.own true 5)),(3,.box hs30),(5,.c (.int .i64))]),(8,[(0,.c (.own true 5)),(3,.box hs30),(6,.c (.int .i64))]),(13,[(0,.c (.own true 5)),(3,.box hs30),(7,.c (.int .i64))]),(18,[(0,.c (.own true 5)),(3,.box hs30),(8,.c (.int .i64))]),(23,[(0,.c (.own true 5)),(3,.box hs30),(9,.c (.int .i64))])],[],0,[4],[],Tryz.f47,[.c (.own true 5),.agg hs30],[.c (.own true 5)],[(40,F40.S),(49,F49.S),(43,F43.S),(41,F41.S),(44,F44.S)]⟩
theorem ZCV:F47.S.Ok Tryz.prog 47:=F47.ok Tryz.func47 (by kernel_rfl) ⟨ZpK,⟨ZCH,⟨ZxO,⟨ZDp,⟨ZCT,trivial⟩⟩⟩⟩⟩
noncomputable def g47 (a b c d e f h:LL):Option (LL):=F47.S.g [.l a,.l b,.l c,.l d,.l e,.l f,.l h]
noncomputable def ZnW (k:Nat) (a b c d e f g:LL) (h:Int):Option (LL):=F47.lp [2,1,2,1,2,1,2,1,2] 0 r0 k [.l a,.l b,.l c,.l d,.l e,.l f,.l g,.i h]
theorem ZkQ (k:Nat) (d g h i j b e:LL) (c:Int):ZnW (k+1) d g h i j b e c =
 (if (cop .lss c (List.length b:Int)) then
 Zm b c hs12 fun (f:Qt25)=>
 (g40 d f.1).bind fun l=>
 Zm b c hs12 fun (m:Qt25)=>
 (g40 l m.2.1).bind fun n=>
 Zm b c hs12 fun (a:Qt25)=>
 (g49 n a.2.2.1 a.2.2.2.1 a.2.2.2.2.1 a.2.2.2.2.2.1 a.2.2.2.2.2.2.1 a.2.2.2.2.2.2.2.1 a.2.2.2.2.2.2.2.2.1 a.2.2.2.2.2.2.2.2.2.1 a.2.2.2.2.2.2.2.2.2.2.1 a.2.2.2.2.2.2.2.2.2.2.2.1 (d4 (d8 a))).bind fun o=>
 ZnW k o g h i j b e (iop .add .i64 c 1)
 else
 (g44 d e).bind fun f=>
 some (f)):=by kernel_rfl
noncomputable def ZmS (k:Nat) (a b c d e f g:LL) (h:Int):Option (LL):=F47.lp [2,1,2,1,2,1,2] 0 r0 k [.l a,.l b,.l c,.l d,.l e,.l f,.l g,.i h]
theorem Zj8 (k:Nat) (d e f g a c h:LL) (b:Int):ZmS (k+1) d e f g a c h b =
 (if (cop .lss b (List.length a:Int)) then
 Zm a b [.int .i64,.int .i64] fun (i:Int×Int)=>
 (g40 d i.1).bind fun j=>
 Zm a b [.int .i64,.int .i64] fun (l:Int×Int)=>
 (g40 j l.2).bind fun m=>
 ZmS k m e f g a c h (iop .add .i64 b 1)
 else
 (g40 d (List.length c:Int)).bind fun i=>
 ZnW Zr i e f g a c h 0):=by kernel_rfl
noncomputable def ZmJ (k:Nat) (a b c d e f g:LL) (h:Int):Option (LL):=F47.lp [2,1,2,1,2] 0 r0 k [.l a,.l b,.l c,.l d,.l e,.l f,.l g,.i h]
theorem ZkY (k:Nat) (d e f a c g h:LL) (b:Int):ZmJ (k+1) d e f a c g h b =
 (if (cop .lss b (List.length a:Int)) then
 Zm a b [.int .i64,.int .i64,.int .i64,.int .i64] fun (i:Int×Int×Int×Int)=>
 (g40 d i.1).bind fun l=>
 Zm a b [.int .i64,.int .i64,.int .i64,.int .i64] fun (j:Int×Int×Int×Int)=>
 (g43 l j.2.1 j.2.2.1 j.2.2.2).bind fun m=>
 ZmJ k m e f a c g h (iop .add .i64 b 1)
 else
 (g40 d (List.length c:Int)).bind fun i=>
 ZmS Zr i e f a c g h 0):=by kernel_rfl
noncomputable def Zox (k:Nat) (a b c d e f g:LL) (h:Int):Option (LL):=F47.lp [2,1,2] 0 r0 k [.l a,.l b,.l c,.l d,.l e,.l f,.l g,.i h]
theorem ZkA (k:Nat) (e f b c g h i:LL) (d:Int):Zox (k+1) e f b c g h i d =
 (if (cop .lss d (List.length b:Int)) then
 Zm b d hs6 fun (a:Qt10)=>
 (g41 e a.1 a.2.1 a.2.2.1 a.2.2.2.1 a.2.2.2.2.1 a.2.2.2.2.2.1 a.2.2.2.2.2.2.1 a.2.2.2.2.2.2.2.1 a.2.2.2.2.2.2.2.2.1 a.2.2.2.2.2.2.2.2.2.1 a.2.2.2.2.2.2.2.2.2.2.1 a.2.2.2.2.2.2.2.2.2.2.2.1 (d4 (d8 a)).1 (d4 (d8 a)).2.1 (d2 (d4 (d8 a))).1 (d2 (d4 (d8 a))).2.1 (d16 a).1 (d16 a).2.1 (d2 (d16 a)).1 (d2 (d16 a)).2.1 (d4 (d16 a)).1 (d4 (d16 a)).2.1 (d2 (d4 (d16 a))).1 (d2 (d4 (d16 a))).2.1 (d8 (d16 a)).1 (d8 (d16 a)).2.1 (d2 (d8 (d16 a))).1 (d2 (d8 (d16 a))).2).bind fun j=>
 Zox k j f b c g h i (iop .add .i64 d 1)
 else
 (g40 e (List.length c:Int)).bind fun a=>
 ZmJ Zr a f b c g h i 0):=by kernel_rfl
noncomputable def ZmV (k:Nat) (a b c d e f g:LL) (h:Int):Option (LL):=F47.lp [2] 0 r0 k [.l a,.l b,.l c,.l d,.l e,.l f,.l g,.i h]
theorem Zkj (k:Nat) (e b d f g h i:LL) (c:Int):ZmV (k+1) e b d f g h i c =
 (if (cop .lss c (List.length b:Int)) then
 Zm b c hs11 fun (a:Qt21)=>
 (g49 e a.1 a.2.1 a.2.2.1 a.2.2.2.1 a.2.2.2.2.1 a.2.2.2.2.2.1 a.2.2.2.2.2.2.1 a.2.2.2.2.2.2.2.1 a.2.2.2.2.2.2.2.2.1 a.2.2.2.2.2.2.2.2.2.1 a.2.2.2.2.2.2.2.2.2.2.1).bind fun l=>
 Zm b c hs11 fun (m:Qt21)=>
 (g40 l m.2.2.2.2.2.2.2.2.2.2.2.1).bind fun n=>
 Zm b c hs11 fun (j:Qt21)=>
 (g43 n (d4 (d8 j)).1 (d4 (d8 j)).2.1 (d2 (d4 (d8 j)))).bind fun o=>
 ZmV k o b d f g h i (iop .add .i64 c 1)
 else
 (g40 e (List.length d:Int)).bind fun a=>
 Zox Zr a b d f g h i 0):=by kernel_rfl
theorem Zwn (b a c d e f g:LL):g47 b a c d e f g =
 ((g40 b (List.length a:Int)).bind fun h=>
 ZmV Zr h a c d e f g 0):=by kernel_rfl
noncomputable def F46:Fn:=⟨25,[4],[],[],0,[4],[],Tryz.f46,[.c (.own true 5),.agg hs7],[.c (.own true 5)],[(40,F40.S),(48,F48.S),(47,F47.S),(42,F42.S)]⟩
theorem ZEh:F46.S.Ok Tryz.prog 46:=F46.ok Tryz.func46 (by kernel_rfl) ⟨ZpK,⟨ZDo,⟨ZCV,⟨ZDq,trivial⟩⟩⟩⟩
noncomputable def g46 (a:LL) (c d:Int) (e f h j k m n o:LL) (p:Bool) (q:Int) (r s t u v w x y:LL):Option (LL):=F46.S.g [.l a,.i c,.i d,.l e,.l f,.l h,.l j,.l k,.l m,.l n,.l o,.b p,.i q,.l r,.l s,.l t,.l u,.l v,.l w,.l x,.l y]
theorem ZwU (a:LL) (b c:Int) (d e f g h i j k:LL) (l:Bool) (m:Int) (n o p q r s t u:LL):g46 a b c d e f g h i j k l m n o p q r s t u =
 ((g40 a b).bind fun v=>
 (g48 v c d e).bind fun w=>
 (g47 w f g h i j k).bind fun x=>
 (g42 x l).bind fun y=>
 (g48 y m n o).bind fun z=>
 (g47 z p q r s t u).bind fun A=>
 some (A)):=by kernel_rfl
noncomputable def F15:Fn:=⟨195,[2,3],[(29,[(1,.box hs0),(4,.c (.own true 5)),(5,.c (.int .i64))]),(35,[(1,.box hs0),(4,.c (.own true 5)),(6,.c (.int .i64))])],[],0,[2],[],Tryz.f15,[.agg hs0],[.c (.own true 5),.c (.int .i64)],[(16,F16.S),(40,F40.S),(41,F41.S),(49,F49.S),(43,F43.S),(42,F42.S),(44,F44.S),(45,F45.S),(46,F46.S),(48,F48.S),(47,F47.S)]⟩
theorem ZDD:F15.S.Ok Tryz.prog 15:=F15.ok Tryz.func15 (by kernel_rfl) ⟨ZC1,⟨ZpK,⟨ZDp,⟨ZCH,⟨ZxO,⟨ZDq,⟨ZCT,⟨ZC4,⟨ZEh,⟨ZDo,⟨ZCV,trivial⟩⟩⟩⟩⟩⟩⟩⟩⟩⟩⟩
noncomputable def g15 (a c d e f h j k m n o:Int) (p:Bool) (q r s t u v w x y z A C D E G H J K L M:Int) (N:LL) (O P Q R T U:Int) (V:Bool) (W X Y Z:LL) (aa ab:Int) (ac ad ae af ag ah ai aj:LL) (ak al:Int) (am an ao ap aq ar aZ au:LL) (av:Bool) (aw:Int) (ax ay az a0 a1 a2 a3 a4:LL):Option (LL×Int):=F15.S.g [.i a,.i c,.i d,.i e,.i f,.i h,.i j,.i k,.i m,.i n,.i o,.b p,.i q,.i r,.i s,.i t,.i u,.i v,.i w,.i x,.i y,.i z,.i A,.i C,.i D,.i E,.i G,.i H,.i J,.i K,.i L,.i M,.l N,.i O,.i P,.i Q,.i R,.i T,.i U,.b V,.l W,.l X,.l Y,.l Z,.i aa,.i ab,.l ac,.l ad,.l ae,.l af,.l ag,.l ah,.l ai,.l aj,.i ak,.i al,.l am,.l an,.l ao,.l ap,.l aq,.l ar,.l aZ,.l au,.b av,.i aw,.l ax,.l ay,.l az,.l a0,.l a1,.l a2,.l a3,.l a4]
noncomputable def YZ (k:Nat) (a c d e f g h j m n o:Int) (p:Bool) (q r s t u v w x y z A C D E G H J K L M:Int) (N:LL) (O P Q R T U:Int) (V:Bool) (W X Y Z:LL) (aa ab:Int) (ac ad ae af ag ah ai aj:LL) (ak al:Int) (am an ao ap aq ar aZ au:LL) (av:Bool) (aw:Int) (ax ay az a0 a1 a2 a3 a4 a5:LL) (a6:Int):Option (LL×Int):=F15.lp [0,1,5,3,2] 0 r0 k [.i a,.i c,.i d,.i e,.i f,.i g,.i h,.i j,.i m,.i n,.i o,.b p,.i q,.i r,.i s,.i t,.i u,.i v,.i w,.i x,.i y,.i z,.i A,.i C,.i D,.i E,.i G,.i H,.i J,.i K,.i L,.i M,.l N,.i O,.i P,.i Q,.i R,.i T,.i U,.b V,.l W,.l X,.l Y,.l Z,.i aa,.i ab,.l ac,.l ad,.l ae,.l af,.l ag,.l ah,.l ai,.l aj,.i ak,.i al,.l am,.l an,.l ao,.l ap,.l aq,.l ar,.l aZ,.l au,.b av,.i aw,.l ax,.l ay,.l az,.l a0,.l a1,.l a2,.l a3,.l a4,.l a5,.i a6]
theorem ZkJ (k:Nat) (e f g h i j l m n o p:Int) (q:Bool) (r s t u v w x y z A C D E G H J K L M N:Int) (O:LL) (P Q R T U V:Int) (W:Bool) (X b Y Z:LL) (aa ab:Int) (ac ad ae af ag ah ai aj:LL) (ak al:Int) (am an ao ap aq ar aZ au:LL) (av:Bool) (aw:Int) (ax ay az a0 a1 a2 a3 a4 d:LL) (c:Int):YZ (k+1) e f g h i j l m n o p q r s t u v w x y z A C D E G H J K L M N O P Q R T U V W X b Y Z aa ab ac ad ae af ag ah ai aj ak al am an ao ap aq ar aZ au av aw ax ay az a0 a1 a2 a3 a4 d c =
 (if (cop .lss c (List.length b:Int)) then
 Zm b c hs16 fun (a:Qt31)=>
 (g49 d a.1 a.2.1 a.2.2.1 a.2.2.2.1 a.2.2.2.2.1 a.2.2.2.2.2.1 a.2.2.2.2.2.2.1 a.2.2.2.2.2.2.2.1 a.2.2.2.2.2.2.2.2.1 a.2.2.2.2.2.2.2.2.2.1 a.2.2.2.2.2.2.2.2.2.2).bind fun a5=>
 YZ k e f g h i j l m n o p q r s t u v w x y z A C D E G H J K L M N O P Q R T U V W X b Y Z aa ab ac ad ae af ag ah ai aj ak al am an ao ap aq ar aZ au av aw ax ay az a0 a1 a2 a3 a4 a5 (iop .add .i64 c 1)
 else
 some (d,0)):=by kernel_rfl
noncomputable def Zoc (k:Nat) (a c d e f g h j m n o:Int) (p:Bool) (q r s t u v w x y z A C D E G H J K L M:Int) (N:LL) (O P Q R T U:Int) (V:Bool) (W X Y Z:LL) (aa ab:Int) (ac ad ae af ag ah ai aj:LL) (ak al:Int) (am an ao ap aq ar aZ au:LL) (av:Bool) (aw:Int) (ax ay az a0 a1 a2 a3 a4 a5:LL) (a6:Int):Option (LL×Int):=F15.lp [0,1,4,1,1,1,1,1,1,1,1,1,1,0,3] 0 r0 k [.i a,.i c,.i d,.i e,.i f,.i g,.i h,.i j,.i m,.i n,.i o,.b p,.i q,.i r,.i s,.i t,.i u,.i v,.i w,.i x,.i y,.i z,.i A,.i C,.i D,.i E,.i G,.i H,.i J,.i K,.i L,.i M,.l N,.i O,.i P,.i Q,.i R,.i T,.i U,.b V,.l W,.l X,.l Y,.l Z,.i aa,.i ab,.l ac,.l ad,.l ae,.l af,.l ag,.l ah,.l ai,.l aj,.i ak,.i al,.l am,.l an,.l ao,.l ap,.l aq,.l ar,.l aZ,.l au,.b av,.i aw,.l ax,.l ay,.l az,.l a0,.l a1,.l a2,.l a3,.l a4,.l a5,.i a6]
theorem Zld (k:Nat) (b g h i j l m n o p q:Int) (r:Bool) (s t u v w x y z A C D E G H J K L M N O:Int) (P:LL) (Q R T U V W:Int) (X:Bool) (Y c Z a:LL) (aa ab:Int) (ac ad ae af ag ah ai aj:LL) (ak al:Int) (am an ao ap aq ar aZ au:LL) (av:Bool) (aw:Int) (ax ay az a0 a1 a2 a3 a4 d:LL) (e:Int):Zoc (k+1) b g h i j l m n o p q r s t u v w x y z A C D E G H J K L M N O P Q R T U V W X Y c Z a aa ab ac ad ae af ag ah ai aj ak al am an ao ap aq ar aZ au av aw ax ay az a0 a1 a2 a3 a4 d e =
 (if (cop .lss e (List.length a:Int)) then
 Zm a e [.int .i64,.int .i64] fun (f:Int×Int)=>
 (g40 d f.1).bind fun a5=>
 Zm a e [.int .i64,.int .i64] fun (a6:Int×Int)=>
 (g40 a5 a6.2).bind fun a7=>
 Zoc k b g h i j l m n o p q r s t u v w x y z A C D E G H J K L M N O P Q R T U V W X Y c Z a aa ab ac ad ae af ag ah ai aj ak al am an ao ap aq ar aZ au av aw ax ay az a0 a1 a2 a3 a4 a7 (iop .add .i64 e 1)
 else
 if (cop .eql b 2) then
 (g40 d (List.length c:Int)).bind fun f=>
 YZ Zr b g h i j l m n o p q r s t u v w x y z A C D E G H J K L M N O P Q R T U V W X Y c Z a aa ab ac ad ae af ag ah ai aj ak al am an ao ap aq ar aZ au av aw ax ay az a0 a1 a2 a3 a4 f 0
 else
 if (cop .eql b 4) then
 (g40 d (List.length c:Int)).bind fun f=>
 YZ Zr b g h i j l m n o p q r s t u v w x y z A C D E G H J K L M N O P Q R T U V W X Y c Z a aa ab ac ad ae af ag ah ai aj ak al am an ao ap aq ar aZ au av aw ax ay az a0 a1 a2 a3 a4 f 0
 else
 some (d,0)):=by kernel_rfl
theorem Y2 (a m n o f d p g h i k:Int) (q:Bool) (r s t u v w x y z A C D E G H J K L M O:Int) (P:LL) (Q R T U V W:Int) (X:Bool) (Y b j Z:LL) (aa ab:Int) (ac ad ae af ag ah ai aj:LL) (ak al:Int) (am an ao ap aq ar aZ au:LL) (av:Bool) (aw:Int) (ax ay az a0 a1 a2 a3 a4:LL):g15 a m n o f d p g h i k q r s t u v w x y z A C D E G H J K L M O P Q R T U V W X Y b j Z aa ab ac ad ae af ag ah ai aj ak al am an ao ap aq ar aZ au av aw ax ay az a0 a1 a2 a3 a4 =
 ((g16 a m n o f d p g h i k q r s t u v w x y z A C D E G H J K L M O P Q R T U V W X Y b j Z aa ab ac ad ae af ag ah ai aj ak al am an ao ap aq ar aZ au av aw ax ay az a0 a1 a2 a3 a4).bind fun a9=>
 if (!a9) then
 some (E0,1)
 else
 (g40 E0 a).bind fun ba=>
 (g40 ba m).bind fun bb=>
 (g40 bb n).bind fun bc=>
 (g40 bc o).bind fun a6=>
 if (cop .eql a 1) then
 (g40 a6 d).bind fun l=>
 (g41 l r s t u v w x y z A C D E G H J K L M O P Q R T U V W X).bind fun c=>
 if (cop .eql a 2) then
 (g40 c (List.length b:Int)).bind fun e=>
 YZ Zr a m n o f d p g h i k q r s t u v w x y z A C D E G H J K L M O P Q R T U V W X Y b j Z aa ab ac ad ae af ag ah ai aj ak al am an ao ap aq ar aZ au av aw ax ay az a0 a1 a2 a3 a4 e 0
 else
 if (cop .eql a 4) then
 (g40 c (List.length b:Int)).bind fun e=>
 YZ Zr a m n o f d p g h i k q r s t u v w x y z A C D E G H J K L M O P Q R T U V W X Y b j Z aa ab ac ad ae af ag ah ai aj ak al am an ao ap aq ar aZ au av aw ax ay az a0 a1 a2 a3 a4 e 0
 else
 some (c,0)
 else
 if (cop .eql a 2) then
 (g40 a6 d).bind fun l=>
 (g43 l g h i).bind fun c=>
 (g40 c k).bind fun e=>
 (g42 e q).bind fun a5=>
 if (cop .eql a 2) then
 (g40 a5 (List.length b:Int)).bind fun a7=>
 YZ Zr a m n o f d p g h i k q r s t u v w x y z A C D E G H J K L M O P Q R T U V W X Y b j Z aa ab ac ad ae af ag ah ai aj ak al am an ao ap aq ar aZ au av aw ax ay az a0 a1 a2 a3 a4 a7 0
 else
 if (cop .eql a 4) then
 (g40 a5 (List.length b:Int)).bind fun a7=>
 YZ Zr a m n o f d p g h i k q r s t u v w x y z A C D E G H J K L M O P Q R T U V W X Y b j Z aa ab ac ad ae af ag ah ai aj ak al am an ao ap aq ar aZ au av aw ax ay az a0 a1 a2 a3 a4 a7 0
 else
 some (a5,0)
 else
 if (cop .eql a 4) then
 (g40 a6 d).bind fun l=>
 (g43 l g h i).bind fun c=>
 (g40 c p).bind fun e=>
 if (cop .eql a 2) then
 (g40 e (List.length b:Int)).bind fun a5=>
 YZ Zr a m n o f d p g h i k q r s t u v w x y z A C D E G H J K L M O P Q R T U V W X Y b j Z aa ab ac ad ae af ag ah ai aj ak al am an ao ap aq ar aZ au av aw ax ay az a0 a1 a2 a3 a4 a5 0
 else
 if (cop .eql a 4) then
 (g40 e (List.length b:Int)).bind fun a5=>
 YZ Zr a m n o f d p g h i k q r s t u v w x y z A C D E G H J K L M O P Q R T U V W X Y b j Z aa ab ac ad ae af ag ah ai aj ak al am an ao ap aq ar aZ au av aw ax ay az a0 a1 a2 a3 a4 a5 0
 else
 some (e,0)
 else
 if (cop .eql a 5) then
 (g40 a6 d).bind fun l=>
 (g43 l g h i).bind fun c=>
 (g40 c k).bind fun e=>
 if (cop .eql a 2) then
 (g40 e (List.length b:Int)).bind fun a5=>
 YZ Zr a m n o f d p g h i k q r s t u v w x y z A C D E G H J K L M O P Q R T U V W X Y b j Z aa ab ac ad ae af ag ah ai aj ak al am an ao ap aq ar aZ au av aw ax ay az a0 a1 a2 a3 a4 a5 0
 else
 if (cop .eql a 4) then
 (g40 e (List.length b:Int)).bind fun a5=>
 YZ Zr a m n o f d p g h i k q r s t u v w x y z A C D E G H J K L M O P Q R T U V W X Y b j Z aa ab ac ad ae af ag ah ai aj ak al am an ao ap aq ar aZ au av aw ax ay az a0 a1 a2 a3 a4 a5 0
 else
 some (e,0)
 else
 if (cop .eql a 6) then
 (g40 a6 d).bind fun l=>
 (g43 l g h i).bind fun c=>
 (g44 c Y).bind fun e=>
 if (cop .eql a 2) then
 (g40 e (List.length b:Int)).bind fun a5=>
 YZ Zr a m n o f d p g h i k q r s t u v w x y z A C D E G H J K L M O P Q R T U V W X Y b j Z aa ab ac ad ae af ag ah ai aj ak al am an ao ap aq ar aZ au av aw ax ay az a0 a1 a2 a3 a4 a5 0
 else
 if (cop .eql a 4) then
 (g40 e (List.length b:Int)).bind fun a5=>
 YZ Zr a m n o f d p g h i k q r s t u v w x y z A C D E G H J K L M O P Q R T U V W X Y b j Z aa ab ac ad ae af ag ah ai aj ak al am an ao ap aq ar aZ au av aw ax ay az a0 a1 a2 a3 a4 a5 0
 else
 some (e,0)
 else
 if (cop .eql a 12) then
 (g40 a6 f).bind fun l=>
 (g45 l j).bind fun c=>
 if (cop .eql a 2) then
 (g40 c (List.length b:Int)).bind fun e=>
 YZ Zr a m n o f d p g h i k q r s t u v w x y z A C D E G H J K L M O P Q R T U V W X Y b j Z aa ab ac ad ae af ag ah ai aj ak al am an ao ap aq ar aZ au av aw ax ay az a0 a1 a2 a3 a4 e 0
 else
 if (cop .eql a 4) then
 (g40 c (List.length b:Int)).bind fun e=>
 YZ Zr a m n o f d p g h i k q r s t u v w x y z A C D E G H J K L M O P Q R T U V W X Y b j Z aa ab ac ad ae af ag ah ai aj ak al am an ao ap aq ar aZ au av aw ax ay az a0 a1 a2 a3 a4 e 0
 else
 some (c,0)
 else
 if (cop .eql a 13) then
 (g40 a6 f).bind fun l=>
 (g46 l ak al am an ao ap aq ar aZ au av aw ax ay az a0 a1 a2 a3 a4).bind fun c=>
 if (cop .eql a 2) then
 (g40 c (List.length b:Int)).bind fun e=>
 YZ Zr a m n o f d p g h i k q r s t u v w x y z A C D E G H J K L M O P Q R T U V W X Y b j Z aa ab ac ad ae af ag ah ai aj ak al am an ao ap aq ar aZ au av aw ax ay az a0 a1 a2 a3 a4 e 0
 else
 if (cop .eql a 4) then
 (g40 c (List.length b:Int)).bind fun e=>
 YZ Zr a m n o f d p g h i k q r s t u v w x y z A C D E G H J K L M O P Q R T U V W X Y b j Z aa ab ac ad ae af ag ah ai aj ak al am an ao ap aq ar aZ au av aw ax ay az a0 a1 a2 a3 a4 e 0
 else
 some (c,0)
 else
 if (cop .eql a 14) then
 (g40 a6 f).bind fun l=>
 (g40 l aa).bind fun c=>
 (g45 c j).bind fun e=>
 (g48 e ab ac ad).bind fun a5=>
 (g47 a5 ae af ag ah ai aj).bind fun a7=>
 if (cop .eql a 2) then
 (g40 a7 (List.length b:Int)).bind fun a8=>
 YZ Zr a m n o f d p g h i k q r s t u v w x y z A C D E G H J K L M O P Q R T U V W X Y b j Z aa ab ac ad ae af ag ah ai aj ak al am an ao ap aq ar aZ au av aw ax ay az a0 a1 a2 a3 a4 a8 0
 else
 if (cop .eql a 4) then
 (g40 a7 (List.length b:Int)).bind fun a8=>
 YZ Zr a m n o f d p g h i k q r s t u v w x y z A C D E G H J K L M O P Q R T U V W X Y b j Z aa ab ac ad ae af ag ah ai aj ak al am an ao ap aq ar aZ au av aw ax ay az a0 a1 a2 a3 a4 a8 0
 else
 some (a7,0)
 else
 if (cop .eql a 15) then
 (g40 a6 f).bind fun l=>
 if (cop .eql a 2) then
 (g40 l (List.length b:Int)).bind fun c=>
 YZ Zr a m n o f d p g h i k q r s t u v w x y z A C D E G H J K L M O P Q R T U V W X Y b j Z aa ab ac ad ae af ag ah ai aj ak al am an ao ap aq ar aZ au av aw ax ay az a0 a1 a2 a3 a4 c 0
 else
 if (cop .eql a 4) then
 (g40 l (List.length b:Int)).bind fun c=>
 YZ Zr a m n o f d p g h i k q r s t u v w x y z A C D E G H J K L M O P Q R T U V W X Y b j Z aa ab ac ad ae af ag ah ai aj ak al am an ao ap aq ar aZ au av aw ax ay az a0 a1 a2 a3 a4 c 0
 else
 some (l,0)
 else
 if (cop .eql a 16) then
 (g40 a6 f).bind fun l=>
 if (cop .eql a 2) then
 (g40 l (List.length b:Int)).bind fun c=>
 YZ Zr a m n o f d p g h i k q r s t u v w x y z A C D E G H J K L M O P Q R T U V W X Y b j Z aa ab ac ad ae af ag ah ai aj ak al am an ao ap aq ar aZ au av aw ax ay az a0 a1 a2 a3 a4 c 0
 else
 if (cop .eql a 4) then
 (g40 l (List.length b:Int)).bind fun c=>
 YZ Zr a m n o f d p g h i k q r s t u v w x y z A C D E G H J K L M O P Q R T U V W X Y b j Z aa ab ac ad ae af ag ah ai aj ak al am an ao ap aq ar aZ au av aw ax ay az a0 a1 a2 a3 a4 c 0
 else
 some (l,0)
 else
 if (cop .eql a 17) then
 (g45 a6 j).bind fun l=>
 (g40 l (List.length Z:Int)).bind fun c=>
 Zoc Zr a m n o f d p g h i k q r s t u v w x y z A C D E G H J K L M O P Q R T U V W X Y b j Z aa ab ac ad ae af ag ah ai aj ak al am an ao ap aq ar aZ au av aw ax ay az a0 a1 a2 a3 a4 c 0
 else
 (g40 a6 d).bind fun l=>
 (g43 l g h i).bind fun c=>
 if (cop .eql a 2) then
 (g40 c (List.length b:Int)).bind fun e=>
 YZ Zr a m n o f d p g h i k q r s t u v w x y z A C D E G H J K L M O P Q R T U V W X Y b j Z aa ab ac ad ae af ag ah ai aj ak al am an ao ap aq ar aZ au av aw ax ay az a0 a1 a2 a3 a4 e 0
 else
 if (cop .eql a 4) then
 (g40 c (List.length b:Int)).bind fun e=>
 YZ Zr a m n o f d p g h i k q r s t u v w x y z A C D E G H J K L M O P Q R T U V W X Y b j Z aa ab ac ad ae af ag ah ai aj ak al am an ao ap aq ar aZ au av aw ax ay az a0 a1 a2 a3 a4 e 0
 else
 some (c,0)):=by kernel_rfl
end Go.Proofs.YtjldbnbdcmfbmaaGreat
