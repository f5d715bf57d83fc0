/- Functions of the program, as what they compute. -/
import Derived.Test.YtjldbnbdcmfbmaaGreatF8a
namespace Go.Proofs.YtjldbnbdcmfbmaaGreat
open Go Go.AM
set_option linter.unusedVariables false
set_option maxRecDepth 100000
noncomputable def Zpr:Fn:=⟨50,[4],[(3,[(0,.c (.slice 1)),(1,.c (.int .u64)),(5,.c (.int .i64)),(6,.c (.int .u64))]),(9,[(0,.c (.slice 1)),(1,.c (.int .u64)),(5,.c (.int .i64)),(7,.c (.own true 5)),(8,.c (.int .i64))])],[],0,[],[(16,[(7,0)])],Tryz.f113,[.c (.slice 1),.c (.int .u64)],[.c (.own false 5)],[]⟩
theorem Zpz:Zpr.S.Ok Tryz.prog 113:=Zpr.ok Tryz.func113 (by kernel_rfl) trivial
noncomputable def ZsN (a:LL) (b:Int):Option (LL):=Zpr.S.g [.l a,.i b]
noncomputable def Zdj (k:Nat) (a:LL) (b c:Int) (d:LL) (e:Int):Option (LL):=Zpr.lp [2,1,4] 0 r0 k [.l a,.i b,.i c,.l d,.i e]
theorem Zg8 (k:Nat) (b:LL) (d e:Int) (c:LL) (a:Int):Zdj (k+1) b d e c a =
 (if (cop .lss a e) then
 if (cop .lss a (iop .sub .i64 e 1)) then
 ZE ((0:Int)≤(iop .add .i64 (List.length b:Int) a))<|
 ZE (((iop .add .i64 (List.length b:Int) a):Int) < (List.length c:Int))<|
 ZE ((0:Int)≤(iop .add .i64 (List.length b:Int) a))<|
 ZE (((iop .add .i64 (List.length b:Int) a):Int) < (List.length c:Int))<|
 ZE ((0:Int)≤7)<|
 Zdj k b (iop .shr .u64 d 7) e (Jc c (Int.toNat (iop .add .i64 (List.length b:Int) a)) 0 [AV.val (.int .u8 (iop .or .u8 (IntKind.wrap .u8 (iop .and .u64 d 127)) 128))]) (iop .add .i64 a 1)
 else
 ZE ((0:Int)≤(iop .add .i64 (List.length b:Int) a))<|
 ZE (((iop .add .i64 (List.length b:Int) a):Int) < (List.length c:Int))<|
 ZE ((0:Int)≤(iop .add .i64 (List.length b:Int) a))<|
 ZE (((iop .add .i64 (List.length b:Int) a):Int) < (List.length c:Int))<|
 ZE ((0:Int)≤7)<|
 Zdj k b (iop .shr .u64 d 7) e (Jc c (Int.toNat (iop .add .i64 (List.length b:Int) a)) 0 [AV.val (.int .u8 (IntKind.wrap .u8 (iop .and .u64 d 127)))]) (iop .add .i64 a 1)
 else
 some (c)):=by kernel_rfl
noncomputable def ZhX (k:Nat) (a:LL) (b c d:Int):Option (LL):=Zpr.lp [2] 0 r0 k [.l a,.i b,.i c,.i d]
theorem ZgU (k:Nat) (a:LL) (c b d:Int):ZhX (k+1) a c b d =
 (if (cop .gtr d 0) then
 ZE ((0:Int)≤7)<|
 ZhX k a c (iop .add .i64 b 1) (iop .shr .u64 d 7)
 else
 ZE (Zun (iop .add .i64 (List.length a:Int) b) 1)<|
 ZE (((iop .add .i64 (List.length a:Int) b):Int)≤(iop .add .i64 (List.length a:Int) b))<|
 ZE (((iop .add .i64 (List.length a:Int) b):Int)≤(iop .add .i64 (List.length a:Int) b))<|
 Zdj Zr a c b (Zme (List.replicate (Int.toNat (iop .add .i64 (List.length a:Int) b)) [AV.val (.int .u8 0)]) a) 0):=by kernel_rfl
theorem ZsV (b:LL) (a:Int):ZsN b a =
 (ZE ((0:Int)≤7)<|
 ZhX Zr b a 1 (iop .shr .u64 a 7)):=by kernel_rfl
noncomputable def F38:Fn:=⟨14,[],[],[0],0,[],[],Tryz.f38,[.box [.own false 5],.c (.int .i64)],[],[(113,Zpr.S)]⟩
theorem Zmm:F38.S.Ok Tryz.prog 38:=F38.ok Tryz.func38 (by kernel_rfl) ⟨Zpz,trivial⟩
noncomputable def g38 (a:LL) (b:Int):Option (LL):=F38.S.g [.l a,.i b]
theorem ZvT (a:LL) (b:Int):g38 a b =
 ((ZsN a (IntKind.wrap .u64 b)).bind fun c=>
 some (c)):=by kernel_rfl
noncomputable def Zuq:Fn:=⟨25,[4],[(2,[(0,.c (.own false 5)),(13,.c (.slice 1)),(14,.c (.int .i64)),(15,.c (.int .i64))])],[],0,[],[],Tryz.f181,[.c (.own false 5),.agg [.int .i64,.int .i64,.int .i64]],[.c (.own false 5)],[(113,Zpr.S)]⟩
theorem ZvU:Zuq.S.Ok Tryz.prog 181:=Zuq.ok Tryz.func181 (by kernel_rfl) ⟨Zpz,trivial⟩
noncomputable def Zxq (a:LL) (b c d:Int):Option (LL):=Zuq.S.g [.l a,.i b,.i c,.i d]
noncomputable def Znc (k:Nat) (a b:LL) (c d:Int):Option (LL):=Zuq.lp [0] 0 r0 k [.l a,.l b,.i c,.i d]
theorem Kn (k:Nat) (b c:LL) (d a:Int):Znc (k+1) b c d a =
 (if (cop .lss a d) then
 Zm c a [.int .i64] fun (e:Int)=>
 (ZsN b (IntKind.wrap .u64 e)).bind fun f=>
 Znc k f c d (iop .add .i64 a 1)
 else
 some (b)):=by kernel_rfl
theorem ZmY (d:LL) (a b c:Int):Zxq d a b c =
 (Znc Zr d (((E0++[[AV.val (.int .i64 a)]])++[[AV.val (.int .i64 b)]])++[[AV.val (.int .i64 c)]]) (List.length (((E0++[[AV.val (.int .i64 a)]])++[[AV.val (.int .i64 b)]])++[[AV.val (.int .i64 c)]]):Int) 0):=by kernel_rfl
noncomputable def ZsW:Fn:=⟨13,[],[],[0],0,[],[],Tryz.f115,[.box [.own false 5],.agg [.int .i64,.int .i64,.int .i64]],[],[(181,Zuq.S)]⟩
theorem ZoZ:ZsW.S.Ok Tryz.prog 115:=ZsW.ok Tryz.func115 (by kernel_rfl) ⟨ZvU,trivial⟩
noncomputable def Zsu (a:LL) (b c d:Int):Option (LL):=ZsW.S.g [.l a,.i b,.i c,.i d]
theorem Zt1 (a:LL) (b c d:Int):Zsu a b c d =
 ((Zxq a b c d).bind fun e=>
 some (e)):=by kernel_rfl
noncomputable def ZyJ:Fn:=⟨14,[4],[],[],0,[],[],Tryz.f218,[.c (.slice 1),.c (.int .i64)],[.c (.own false 5)],[(113,Zpr.S)]⟩
theorem ZB7:ZyJ.S.Ok Tryz.prog 218:=ZyJ.ok Tryz.func218 (by kernel_rfl) ⟨Zpz,trivial⟩
noncomputable def ZAU (a:LL) (b:Int):Option (LL):=ZyJ.S.g [.l a,.i b]
theorem Ztu (b:LL) (a:Int):ZAU b a =
 (ZE ((0:Int)≤1)<|
 ZE ((0:Int)≤63)<|
 (ZsN b (iop .xor .u64 (iop .shl .u64 (IntKind.wrap .u64 a) 1) (IntKind.wrap .u64 (iop .shr .i64 a 63)))).bind fun c=>
 some (c)):=by kernel_rfl
noncomputable def ZvN:Fn:=⟨46,[],[(2,[(0,.box [.own false 5]),(30,.c (.slice 1)),(31,.c (.int .i64)),(32,.c (.int .i64))])],[0],0,[],[],Tryz.f179,[.box [.own false 5],.agg hs13],[],[(218,ZyJ.S)]⟩
theorem ZAT:ZvN.S.Ok Tryz.prog 179:=ZvN.ok Tryz.func179 (by kernel_rfl) ⟨ZB7,trivial⟩
noncomputable def ZCh (a:LL) (b c d e f h j k m n o p:Int):Option (LL):=ZvN.S.g [.l a,.i b,.i c,.i d,.i e,.i f,.i h,.i j,.i k,.i m,.i n,.i o,.i p]
noncomputable def ZgJ (k:Nat) (a b:LL) (c d:Int):Option (LL):=ZvN.lp [0] 0 r0 k [.l a,.l b,.i c,.i d]
theorem ZgS (k:Nat) (b c:LL) (d a:Int):ZgJ (k+1) b c d a =
 (if (cop .lss a d) then
 Zm c a [.int .i64] fun (e:Int)=>
 (ZAU b e).bind fun f=>
 ZgJ k f c d (iop .add .i64 a 1)
 else
 some (b)):=by kernel_rfl
theorem ZsU (m:LL) (a b c d e f g h i j k l:Int):ZCh m a b c d e f g h i j k l =
 (ZgJ Zr m ((((((((((((E0++[[AV.val (.int .i64 a)]])++[[AV.val (.int .i64 b)]])++[[AV.val (.int .i64 c)]])++[[AV.val (.int .i64 d)]])++[[AV.val (.int .i64 e)]])++[[AV.val (.int .i64 f)]])++[[AV.val (.int .i64 g)]])++[[AV.val (.int .i64 h)]])++[[AV.val (.int .i64 i)]])++[[AV.val (.int .i64 j)]])++[[AV.val (.int .i64 k)]])++[[AV.val (.int .i64 l)]]) (List.length ((((((((((((E0++[[AV.val (.int .i64 a)]])++[[AV.val (.int .i64 b)]])++[[AV.val (.int .i64 c)]])++[[AV.val (.int .i64 d)]])++[[AV.val (.int .i64 e)]])++[[AV.val (.int .i64 f)]])++[[AV.val (.int .i64 g)]])++[[AV.val (.int .i64 h)]])++[[AV.val (.int .i64 i)]])++[[AV.val (.int .i64 j)]])++[[AV.val (.int .i64 k)]])++[[AV.val (.int .i64 l)]]):Int) 0):=by kernel_rfl
noncomputable def Zwd:Fn:=⟨45,[2,3],[(8,[(1,.box hs27),(5,.c (.own false 5)),(31,.c (.int .i64))])],[],0,[],[],Tryz.f231,[.agg hs27],[.c (.own false 5),.c (.int .i64)],[(166,ZuC.S)]⟩
theorem ZCA:Zwd.S.Ok Tryz.prog 231:=Zwd.ok Tryz.func231 (by kernel_rfl) ⟨Zta,trivial⟩
noncomputable def ZAz (a c d e f h:Int) (j:Bool):Option (LL×Int):=Zwd.S.g [.i a,.i c,.i d,.i e,.i f,.i h,.b j]
noncomputable def Zhv (k:Nat) (a c d e f g:Int) (h:Bool) (j:LL) (m:Int):Option (LL×Int):=Zwd.lp [0,1,0,0] 0 r0 k [.i a,.i c,.i d,.i e,.i f,.i g,.b h,.l j,.i m]
theorem Vq (k:Nat) (d b e f g h:Int) (i:Bool) (c:LL) (a:Int):Zhv (k+1) d b e f g h i c a =
 (if (cop .lss a 5) then
 ZE ((0:Int)≤(iop .mul .i64 8 a))<|
 ZE (Jw c (E0++[[AV.val (.int .u8 (IntKind.wrap .u8 (iop .shr .i64 b (iop .mul .i64 8 a))))]]) 1)<|
 Zhv k d b e f g h i (c++(E0++[[AV.val (.int .u8 (IntKind.wrap .u8 (iop .shr .i64 b (iop .mul .i64 8 a))))]])) (iop .add .i64 a 1)
 else
 some (c,0)):=by kernel_rfl
theorem ZsQ (a g b c d e:Int) (f:Bool):ZAz a g b c d e f =
 ((Zzl a g b c d e f).bind fun h=>
 if (!h) then
 some (E0,1)
 else
 if f then
 Zhv Zr a g b c d e f (((((E0++[[AV.val (.int .u8 (IntKind.wrap .u8 a))]])++[[AV.val (.int .u8 (IntKind.wrap .u8 b))]])++[[AV.val (.int .u8 (IntKind.wrap .u8 (iop .add .i64 c 8)))]])++[[AV.val (.int .u8 (IntKind.wrap .u8 d))]])++[[AV.val (.int .u8 (IntKind.wrap .u8 e))]]) 0
 else
 Zhv Zr a g b c d e f (((((E0++[[AV.val (.int .u8 (IntKind.wrap .u8 a))]])++[[AV.val (.int .u8 (IntKind.wrap .u8 b))]])++[[AV.val (.int .u8 (IntKind.wrap .u8 c))]])++[[AV.val (.int .u8 (IntKind.wrap .u8 d))]])++[[AV.val (.int .u8 (IntKind.wrap .u8 e))]]) 0):=by kernel_rfl
noncomputable def Zxp:Fn:=⟨40,[2,3],[(5,[(1,.box hs16),(4,.c (.own false 5)),(21,.c (.slice 3)),(22,.c (.int .i64)),(23,.c (.int .i64))])],[],0,[],[],Tryz.f219,[.agg hs16],[.c (.own false 5),.c (.int .i64)],[(95,F95.S),(181,Zuq.S),(113,Zpr.S),(231,Zwd.S)]⟩
theorem ZBQ:Zxp.S.Ok Tryz.prog 219:=Zxp.ok Tryz.func219 (by kernel_rfl) ⟨ZuI,⟨ZvU,⟨Zpz,⟨ZCA,trivial⟩⟩⟩⟩
noncomputable def ZzY (a c d:Int) (e:LL) (f h j k m n:Int) (o:Bool):Option (LL×Int):=Zxp.S.g [.i a,.i c,.i d,.l e,.i f,.i h,.i j,.i k,.i m,.i n,.b o]
noncomputable def ZjW (k:Nat) (a c d:Int) (e:LL) (f g h j m n:Int) (o:Bool) (p q:LL) (r s:Int):Option (LL×Int):=Zxp.lp [0,1,3] 0 r0 k [.i a,.i c,.i d,.l e,.i f,.i g,.i h,.i j,.i m,.i n,.b o,.l p,.l q,.i r,.i s]
theorem ZgX (k:Nat) (n o p:Int) (q:LL) (d e f g h i:Int) (j:Bool) (b l:LL) (m c:Int):ZjW (k+1) n o p q d e f g h i j b l m c =
 (if (cop .lss c m) then
 Zm l c [.int .i64,.int .i64,.int .i64] fun (a:Int×Int×Int)=>
 (Zxq b a.1 a.2.1 a.2.2).bind fun r=>
 ZjW k n o p q d e f g h i j r l m (iop .add .i64 c 1)
 else
 (ZAz d e f g h i j).bind fun a=>
 ZE (Jw b a.1 1)<|
 some ((b++a.1),0)):=by kernel_rfl
theorem ZrB (b c d:Int) (a:LL) (e f g h i j:Int) (k:Bool):ZzY b c d a e f g h i j k =
 ((g95 b c d a e f g h i j k).bind fun l=>
 if (!l) then
 some (E0,1)
 else
 (Zxq E0 b c d).bind fun m=>
 (ZsN m (IntKind.wrap .u64 (List.length a:Int))).bind fun n=>
 ZjW Zr b c d a e f g h i j k n a (List.length a:Int) 0):=by kernel_rfl
noncomputable def Zur:Fn:=⟨24,[],[],[0],0,[],[],Tryz.f180,[.box [.own false 5],.agg hs16],[],[(219,Zxp.S),(38,F38.S)]⟩
theorem Zt2:Zur.S.Ok Tryz.prog 180:=Zur.ok Tryz.func180 (by kernel_rfl) ⟨ZBQ,⟨Zmm,trivial⟩⟩
noncomputable def Zuw (a:LL) (c d e:Int) (f:LL) (h j k m n o:Int) (p:Bool):Option (LL):=Zur.S.g [.l a,.i c,.i d,.i e,.l f,.i h,.i j,.i k,.i m,.i n,.i o,.b p]
theorem ZtY (b:LL) (c d e:Int) (f:LL) (g h i j k l:Int) (m:Bool):Zuw b c d e f g h i j k l m =
 ((ZzY c d e f g h i j k l m).bind fun a=>
 (g38 b (List.length a.1:Int)).bind fun n=>
 ZE (Jw n a.1 1)<|
 some ((n++a.1))):=by kernel_rfl
noncomputable def Zu4:Fn:=⟨24,[],[],[0],0,[],[],Tryz.f114,[.box [.own false 5],.agg hs6],[],[(115,ZsW.S),(179,ZvN.S),(38,F38.S),(180,Zur.S)]⟩
theorem Zx6:Zu4.S.Ok Tryz.prog 114:=Zu4.ok Tryz.func114 (by kernel_rfl) ⟨ZoZ,⟨ZAT,⟨Zmm,⟨Zt2,trivial⟩⟩⟩⟩
noncomputable def ZyK (a:LL) (c d e f h j k m n o p q r s t u v w x y:Int) (z:LL) (A C D E G H:Int) (J:Bool):Option (LL):=Zu4.S.g [.l a,.i c,.i d,.i e,.i f,.i h,.i j,.i k,.i m,.i n,.i o,.i p,.i q,.i r,.i s,.i t,.i u,.i v,.i w,.i x,.i y,.l z,.i A,.i C,.i D,.i E,.i G,.i H,.b J]
theorem Zs7 (a:LL) (b c d e f g h i j k l m n o p q r s t u:Int) (v:LL) (w x y z A C:Int) (D:Bool):ZyK a b c d e f g h i j k l m n o p q r s t u v w x y z A C D =
 ((Zsu a b c d).bind fun E=>
 (ZCh E e f g h i j k l m n o p).bind fun G=>
 (g38 G q).bind fun H=>
 (g38 H r).bind fun J=>
 (Zuw J s t u v w x y z A C D).bind fun K=>
 some (K)):=by kernel_rfl
noncomputable def ZxB:Fn:=⟨9,[],[],[0],0,[],[],Tryz.f116,[.box [.own false 5],.c (.bool)],[],[(38,F38.S)]⟩
theorem ZvE:ZxB.S.Ok Tryz.prog 116:=ZxB.ok Tryz.func116 (by kernel_rfl) ⟨Zmm,trivial⟩
noncomputable def ZyX (a:LL) (c:Bool):Option (LL):=ZxB.S.g [.l a,.b c]
theorem Zuj (a:LL) (c:Bool):ZyX a c =
 (if c then
 (g38 a 1).bind fun b=>
 some (b)
 else
 (g38 a 0).bind fun b=>
 some (b)):=by kernel_rfl
noncomputable def Zvq:Fn:=⟨20,[],[(2,[(0,.box [.own false 5]),(10,.c (.slice 11)),(11,.c (.int .i64)),(12,.c (.int .i64))])],[0],0,[],[],Tryz.f117,[.box [.own false 5],.c (.slice 11)],[],[(38,F38.S),(180,Zur.S)]⟩
theorem Zz1:Zvq.S.Ok Tryz.prog 117:=Zvq.ok Tryz.func117 (by kernel_rfl) ⟨Zmm,⟨Zt2,trivial⟩⟩
noncomputable def ZCm (a b:LL):Option (LL):=Zvq.S.g [.l a,.l b]
noncomputable def ZkR (k:Nat) (a b:LL) (c d:Int):Option (LL):=Zvq.lp [2] 0 r0 k [.l a,.l b,.i c,.i d]
theorem ZhL (k:Nat) (c d:LL) (e b:Int):ZkR (k+1) c d e b =
 (if (cop .lss b e) then
 Zm d b hs16 fun (a:Qt31)=>
 (Zuw c a.1 a.2.1 a.2.2.1 a.2.2.2.1 a.2.2.2.2.1 a.2.2.2.2.2.1 a.2.2.2.2.2.2.1 a.2.2.2.2.2.2.2.1 a.2.2.2.2.2.2.2.2.1 a.2.2.2.2.2.2.2.2.2.1 a.2.2.2.2.2.2.2.2.2.2).bind fun f=>
 ZkR k f d e (iop .add .i64 b 1)
 else
 some (c)):=by kernel_rfl
theorem Zsk (b a:LL):ZCm b a =
 ((g38 b (List.length a:Int)).bind fun c=>
 ZkR Zr c a (List.length a:Int) 0):=by kernel_rfl
noncomputable def Zuv:Fn:=⟨20,[],[(2,[(0,.box [.own false 5]),(10,.c (.slice 3)),(11,.c (.int .i64)),(12,.c (.int .i64))])],[0],0,[],[],Tryz.f118,[.box [.own false 5],.c (.slice 3)],[],[(38,F38.S),(115,ZsW.S)]⟩
theorem ZxO:Zuv.S.Ok Tryz.prog 118:=Zuv.ok Tryz.func118 (by kernel_rfl) ⟨Zmm,⟨ZoZ,trivial⟩⟩
noncomputable def ZyV (a b:LL):Option (LL):=Zuv.S.g [.l a,.l b]
noncomputable def Zj8 (k:Nat) (a b:LL) (c d:Int):Option (LL):=Zuv.lp [2] 0 r0 k [.l a,.l b,.i c,.i d]
theorem Zhc (k:Nat) (b c:LL) (d a:Int):Zj8 (k+1) b c d a =
 (if (cop .lss a d) then
 Zm c a [.int .i64,.int .i64,.int .i64] fun (e:Int×Int×Int)=>
 (Zsu b e.1 e.2.1 e.2.2).bind fun f=>
 Zj8 k f c d (iop .add .i64 a 1)
 else
 some (b)):=by kernel_rfl
theorem Zte (b a:LL):ZyV b a =
 ((g38 b (List.length a:Int)).bind fun c=>
 Zj8 Zr c a (List.length a:Int) 0):=by kernel_rfl
noncomputable def ZuA:Fn:=⟨20,[],[(2,[(0,.box [.own false 5]),(10,.c (.slice 1)),(11,.c (.int .i64)),(12,.c (.int .i64))])],[0],0,[],[],Tryz.f119,[.box [.own false 5],.c (.slice 1)],[],[(38,F38.S)]⟩
theorem ZxF:ZuA.S.Ok Tryz.prog 119:=ZuA.ok Tryz.func119 (by kernel_rfl) ⟨Zmm,trivial⟩
noncomputable def ZuY (a b:LL):Option (LL):=ZuA.S.g [.l a,.l b]
noncomputable def ZkI (k:Nat) (a b:LL) (c d:Int):Option (LL):=ZuA.lp [2] 0 r0 k [.l a,.l b,.i c,.i d]
theorem Zha (k:Nat) (b c:LL) (d a:Int):ZkI (k+1) b c d a =
 (if (cop .lss a d) then
 Zm c a [.int .i64] fun (e:Int)=>
 (g38 b e).bind fun f=>
 ZkI k f c d (iop .add .i64 a 1)
 else
 some (b)):=by kernel_rfl
theorem ZtS (b a:LL):ZuY b a =
 ((g38 b (List.length a:Int)).bind fun c=>
 ZkI Zr c a (List.length a:Int) 0):=by kernel_rfl
noncomputable def Zxa:Fn:=⟨16,[],[],[0],0,[],[],Tryz.f121,[.box [.own false 5],.agg [.int .i64,.slice 1,.slice 1]],[],[(38,F38.S),(119,ZuA.S)]⟩
theorem ZwV:Zxa.S.Ok Tryz.prog 121:=Zxa.ok Tryz.func121 (by kernel_rfl) ⟨Zmm,⟨ZxF,trivial⟩⟩
noncomputable def ZwA (a:LL) (b:Int) (c d:LL):Option (LL):=Zxa.S.g [.l a,.i b,.l c,.l d]
theorem ZsB (a:LL) (b:Int) (c d:LL):ZwA a b c d =
 ((g38 a b).bind fun e=>
 (ZuY e c).bind fun f=>
 (ZuY f d).bind fun g=>
 some (g)):=by kernel_rfl
noncomputable def ZoQ:Fn:=⟨126,[],[(3,[(0,.box [.own false 5]),(3,.box hs30),(20,.c (.slice 15)),(21,.c (.int .i64)),(22,.c (.int .i64))]),(11,[(0,.box [.own false 5]),(3,.box hs30),(45,.c (.slice 28)),(46,.c (.int .i64)),(47,.c (.int .i64))]),(17,[(0,.box [.own false 5]),(3,.box hs30),(61,.c (.slice 4)),(62,.c (.int .i64)),(63,.c (.int .i64))]),(24,[(0,.box [.own false 5]),(3,.box hs30),(82,.c (.slice 2)),(83,.c (.int .i64)),(84,.c (.int .i64))]),(31,[(0,.box [.own false 5]),(3,.box hs30),(103,.c (.slice 13)),(104,.c (.int .i64)),(105,.c (.int .i64))])],[0],0,[],[],Tryz.f122,[.box [.own false 5],.agg hs30],[],[(38,F38.S),(180,Zur.S),(115,ZsW.S),(114,Zu4.S),(118,Zuv.S)]⟩
theorem Zxb:ZoQ.S.Ok Tryz.prog 122:=ZoQ.ok Tryz.func122 (by kernel_rfl) ⟨Zmm,⟨Zt2,⟨ZoZ,⟨Zx6,⟨ZxO,trivial⟩⟩⟩⟩⟩
noncomputable def Zvt (a b c d e f h:LL):Option (LL):=ZoQ.S.g [.l a,.l b,.l c,.l d,.l e,.l f,.l h]
noncomputable def ZhW (k:Nat) (a b c d e f g h:LL) (j m:Int):Option (LL):=ZoQ.lp [2,1,2,1,2,1,2,1,2] 0 r0 k [.l a,.l b,.l c,.l d,.l e,.l f,.l g,.l h,.i j,.i m]
theorem Zhs (k:Nat) (c g h i j l d e:LL) (f b:Int):ZhW (k+1) c g h i j l d e f b =
 (if (cop .lss b f) then
 Zm e b hs12 fun (a:Qt25)=>
 (g38 c a.1).bind fun m=>
 (g38 m a.2.1).bind fun n=>
 (Zuw n a.2.2.1 a.2.2.2.1 a.2.2.2.2.1 a.2.2.2.2.2.1 a.2.2.2.2.2.2.1 a.2.2.2.2.2.2.2.1 a.2.2.2.2.2.2.2.2.1 a.2.2.2.2.2.2.2.2.2.1 a.2.2.2.2.2.2.2.2.2.2.1 a.2.2.2.2.2.2.2.2.2.2.2.1 (d4 (d8 a))).bind fun o=>
 ZhW k o g h i j l d e f (iop .add .i64 b 1)
 else
 (ZyV c d).bind fun a=>
 some (a)):=by kernel_rfl
noncomputable def ZhY (k:Nat) (a b c d e f g h:LL) (j m:Int):Option (LL):=ZoQ.lp [2,1,2,1,2,1,2] 0 r0 k [.l a,.l b,.l c,.l d,.l e,.l f,.l g,.l h,.i j,.i m]
theorem Zg5 (k:Nat) (d e f g h a i j:LL) (l b:Int):ZhY (k+1) d e f g h a i j l b =
 (if (cop .lss b l) then
 Zm j b [.int .i64,.int .i64] fun (c:Int×Int)=>
 (g38 d c.1).bind fun m=>
 (g38 m c.2).bind fun n=>
 ZhY k n e f g h a i j l (iop .add .i64 b 1)
 else
 (g38 d (List.length a:Int)).bind fun c=>
 ZhW Zr c e f g h a i a (List.length a:Int) 0):=by kernel_rfl
noncomputable def ZhI (k:Nat) (a b c d e f g h:LL) (j m:Int):Option (LL):=ZoQ.lp [2,1,2,1,2] 0 r0 k [.l a,.l b,.l c,.l d,.l e,.l f,.l g,.l h,.i j,.i m]
theorem Zgs (k:Nat) (d e f g a h i j:LL) (l c:Int):ZhI (k+1) d e f g a h i j l c =
 (if (cop .lss c l) then
 Zm j c [.int .i64,.int .i64,.int .i64,.int .i64] fun (b:Int×Int×Int×Int)=>
 (g38 d b.1).bind fun m=>
 (Zsu m b.2.1 b.2.2.1 b.2.2.2).bind fun n=>
 ZhI k n e f g a h i j l (iop .add .i64 c 1)
 else
 (g38 d (List.length a:Int)).bind fun b=>
 ZhY Zr b e f g a h i a (List.length a:Int) 0):=by kernel_rfl
noncomputable def ZgW (k:Nat) (a b c d e f g h:LL) (j m:Int):Option (LL):=ZoQ.lp [2,1,2] 0 r0 k [.l a,.l b,.l c,.l d,.l e,.l f,.l g,.l h,.i j,.i m]
theorem ZgQ (k:Nat) (d e f b g h i j:LL) (l c:Int):ZgW (k+1) d e f b g h i j l c =
 (if (cop .lss c l) then
 Zm j c hs6 fun (a:Qt10)=>
 (ZyK d a.1 a.2.1 a.2.2.1 a.2.2.2.1 a.2.2.2.2.1 a.2.2.2.2.2.1 a.2.2.2.2.2.2.1 a.2.2.2.2.2.2.2.1 a.2.2.2.2.2.2.2.2.1 a.2.2.2.2.2.2.2.2.2.1 a.2.2.2.2.2.2.2.2.2.2.1 a.2.2.2.2.2.2.2.2.2.2.2.1 (d4 (d8 a)).1 (d4 (d8 a)).2.1 (d2 (d4 (d8 a))).1 (d2 (d4 (d8 a))).2.1 (d16 a).1 (d16 a).2.1 (d2 (d16 a)).1 (d2 (d16 a)).2.1 (d4 (d16 a)).1 (d4 (d16 a)).2.1 (d2 (d4 (d16 a))).1 (d2 (d4 (d16 a))).2.1 (d8 (d16 a)).1 (d8 (d16 a)).2.1 (d2 (d8 (d16 a))).1 (d2 (d8 (d16 a))).2).bind fun m=>
 ZgW k m e f b g h i j l (iop .add .i64 c 1)
 else
 (g38 d (List.length b:Int)).bind fun a=>
 ZhI Zr a e f b g h i b (List.length b:Int) 0):=by kernel_rfl
noncomputable def Zg1 (k:Nat) (a b c d e f g h:LL) (j m:Int):Option (LL):=ZoQ.lp [2] 0 r0 k [.l a,.l b,.l c,.l d,.l e,.l f,.l g,.l h,.i j,.i m]
theorem Zhr (k:Nat) (d e b f g h i j:LL) (l c:Int):Zg1 (k+1) d e b f g h i j l c =
 (if (cop .lss c l) then
 Zm j c hs11 fun (a:Qt21)=>
 (Zuw d a.1 a.2.1 a.2.2.1 a.2.2.2.1 a.2.2.2.2.1 a.2.2.2.2.2.1 a.2.2.2.2.2.2.1 a.2.2.2.2.2.2.2.1 a.2.2.2.2.2.2.2.2.1 a.2.2.2.2.2.2.2.2.2.1 a.2.2.2.2.2.2.2.2.2.2.1).bind fun m=>
 (g38 m a.2.2.2.2.2.2.2.2.2.2.2.1).bind fun n=>
 (Zsu n (d4 (d8 a)).1 (d4 (d8 a)).2.1 (d2 (d4 (d8 a)))).bind fun o=>
 Zg1 k o e b f g h i j l (iop .add .i64 c 1)
 else
 (g38 d (List.length b:Int)).bind fun a=>
 ZgW Zr a e b f g h i b (List.length b:Int) 0):=by kernel_rfl
theorem ZrI (b a c d e f g:LL):Zvt b a c d e f g =
 ((g38 b (List.length a:Int)).bind fun h=>
 Zg1 Zr h a c d e f g a (List.length a:Int) 0):=by kernel_rfl
noncomputable def Zyl:Fn:=⟨28,[],[],[0],0,[],[],Tryz.f120,[.box [.own false 5],.agg hs7],[],[(38,F38.S),(121,Zxa.S),(122,ZoQ.S),(116,ZxB.S)]⟩
theorem ZA0:Zyl.S.Ok Tryz.prog 120:=Zyl.ok Tryz.func120 (by kernel_rfl) ⟨Zmm,⟨ZwV,⟨Zxb,⟨ZvE,trivial⟩⟩⟩⟩
noncomputable def ZAP (a:LL) (c d:Int) (e f h j k m n o:LL) (p:Bool) (q:Int) (r s t u v w x y:LL):Option (LL):=Zyl.S.g [.l a,.i c,.i d,.l e,.l f,.l h,.l j,.l k,.l m,.l n,.l o,.b p,.i q,.l r,.l s,.l t,.l u,.l v,.l w,.l x,.l y]
theorem ZrH (a:LL) (b c:Int) (d e f g h i j k:LL) (l:Bool) (m:Int) (n o p q r s t u:LL):ZAP a b c d e f g h i j k l m n o p q r s t u =
 ((g38 a b).bind fun v=>
 (ZwA v c d e).bind fun w=>
 (Zvt w f g h i j k).bind fun x=>
 (ZyX x l).bind fun y=>
 (ZwA y m n o).bind fun z=>
 (Zvt z p q r s t u).bind fun A=>
 some (A)):=by kernel_rfl
noncomputable def Zya:Fn:=⟨25,[],[(2,[(0,.box [.own false 5]),(10,.c (.slice 2)),(11,.c (.int .i64)),(12,.c (.int .i64))])],[0],0,[],[],Tryz.f123,[.box [.own false 5],.c (.slice 2)],[],[(38,F38.S)]⟩
theorem ZBl:Zya.S.Ok Tryz.prog 123:=Zya.ok Tryz.func123 (by kernel_rfl) ⟨Zmm,trivial⟩
noncomputable def ZzL (a b:LL):Option (LL):=Zya.S.g [.l a,.l b]
noncomputable def Zkl (k:Nat) (a b:LL) (c d:Int):Option (LL):=Zya.lp [2] 0 r0 k [.l a,.l b,.i c,.i d]
theorem Zhe (k:Nat) (b c:LL) (d a:Int):Zkl (k+1) b c d a =
 (if (cop .lss a d) then
 Zm c a [.int .i64,.int .i64] fun (e:Int×Int)=>
 (g38 b e.1).bind fun f=>
 (g38 f e.2).bind fun g=>
 Zkl k g c d (iop .add .i64 a 1)
 else
 some (b)):=by kernel_rfl
theorem Zud (b a:LL):ZzL b a =
 ((g38 b (List.length a:Int)).bind fun c=>
 Zkl Zr c a (List.length a:Int) 0):=by kernel_rfl
noncomputable def F39:Fn:=⟨97,[],[],[0],0,[],[],Tryz.f39,[.box [.own false 5],.agg hs0,.c (.int .i64)],[],[(38,F38.S),(114,Zu4.S),(115,ZsW.S),(116,ZxB.S),(117,Zvq.S),(118,Zuv.S),(119,ZuA.S),(120,Zyl.S),(121,Zxa.S),(122,ZoQ.S),(123,Zya.S)]⟩
theorem ZEf:F39.S.Ok Tryz.prog 39:=F39.ok Tryz.func39 (by kernel_rfl) ⟨Zmm,⟨Zx6,⟨ZoZ,⟨ZvE,⟨Zz1,⟨ZxO,⟨ZxF,⟨ZA0,⟨ZwV,⟨Zxb,⟨ZBl,trivial⟩⟩⟩⟩⟩⟩⟩⟩⟩⟩⟩
noncomputable def g39 (a:LL) (c d e f h j k m n o p:Int) (q:Bool) (r s t u v w x y z A C D E G H J K L M N:Int) (O:LL) (P Q R T U V:Int) (W:Bool) (X Y Z aa:LL) (ab ac:Int) (ad ae af ag ah ai aj ak:LL) (al am:Int) (an ao ap aq ar aZ au av:LL) (aw:Bool) (ax:Int) (ay az a0 a1 a2 a3 a4 a5:LL) (a6:Int):Option (LL):=F39.S.g [.l a,.i c,.i d,.i e,.i f,.i h,.i j,.i k,.i m,.i n,.i o,.i p,.b q,.i r,.i s,.i t,.i u,.i v,.i w,.i x,.i y,.i z,.i A,.i C,.i D,.i E,.i G,.i H,.i J,.i K,.i L,.i M,.i N,.l O,.i P,.i Q,.i R,.i T,.i U,.i V,.b W,.l X,.l Y,.l Z,.l aa,.i ab,.i ac,.l ad,.l ae,.l af,.l ag,.l ah,.l ai,.l aj,.l ak,.i al,.i am,.l an,.l ao,.l ap,.l aq,.l ar,.l aZ,.l au,.l av,.b aw,.i ax,.l ay,.l az,.l a0,.l a1,.l a2,.l a3,.l a4,.l a5,.i a6]
theorem KV (b:LL) (x1 x2 x3 x4 d e f g h i j:Int) (k:Bool) (l m n o p q r s t u v w x y z A C D E G:Int) (H:LL) (J K L M N O:Int) (P:Bool) (Q R T U:LL) (V W:Int) (X Y Z aa ab ac ad ae:LL) (af ag:Int) (ah ai aj ak al am an ao:LL) (ap:Bool) (aq:Int) (ar aZ au av aw ax ay az:LL) (c:Int):g39 b x1 x2 x3 x4 d e f g h i j k l m n o p q r s t u v w x y z A C D E G H J K L M N O P Q R T U V W X Y Z aa ab ac ad ae af ag ah ai aj ak al am an ao ap aq ar aZ au av aw ax ay az c =
 (if (cop .eql c 0) then
 (g38 b e).bind fun a=>
 some (a)
 else
 if (cop .eql c 1) then
 (ZyK b l m n o p q r s t u v w x y z A C D E G H J K L M N O P).bind fun a=>
 some (a)
 else
 if (cop .eql c 2) then
 (Zsu b g h i).bind fun a=>
 some (a)
 else
 if (cop .eql c 3) then
 (g38 b j).bind fun a=>
 some (a)
 else
 if (cop .eql c 4) then
 (ZyX b k).bind fun a=>
 some (a)
 else
 if (cop .eql c 5) then
 (ZCm b R).bind fun a=>
 some (a)
 else
 if (cop .eql c 6) then
 (g38 b f).bind fun a=>
 some (a)
 else
 if (cop .eql c 7) then
 (ZyV b Q).bind fun a=>
 some (a)
 else
 if (cop .eql c 8) then
 (g38 b d).bind fun a=>
 some (a)
 else
 if (cop .eql c 9) then
 (ZuY b T).bind fun a=>
 some (a)
 else
 if (cop .eql c 10) then
 (ZAP b af ag ah ai aj ak al am an ao ap aq ar aZ au av aw ax ay az).bind fun a=>
 some (a)
 else
 if (cop .eql c 11) then
 (g38 b V).bind fun a=>
 some (a)
 else
 if (cop .eql c 12) then
 (ZwA b W X Y).bind fun a=>
 some (a)
 else
 if (cop .eql c 13) then
 (Zvt b Z aa ab ac ad ae).bind fun a=>
 some (a)
 else
 if (cop .eql c 14) then
 (ZzL b U).bind fun a=>
 some (a)
 else
 some (b)):=by kernel_rfl
noncomputable def F14:Fn:=⟨55,[2,3],[(5,[(1,.box hs0),(4,.ptr 15 0),(24,.c (.slice 1)),(25,.c (.int .i64)),(26,.c (.int .i64)),(15,.box [.own false 5])]),(11,[(1,.box hs0),(4,.ptr 15 0),(40,.c (.slice 1)),(41,.c (.int .i64)),(42,.c (.int .i64)),(15,.box [.own false 5])])],[],0,[],[],Tryz.f14,[.agg hs0],[.c (.own false 5),.c (.int .i64)],[(12,F12.S),(38,F38.S),(32,F32.S),(39,F39.S)]⟩
theorem ZCx:F14.S.Ok Tryz.prog 14:=F14.ok Tryz.func14 (by kernel_rfl) ⟨ZCi,⟨Zmm,⟨ZAI,⟨ZEf,trivial⟩⟩⟩⟩
noncomputable def g14 (a c d e f h j k m n o:Int) (p:Bool) (q r s t u v w x y z A C D E G H J K L M:Int) (N:LL) (O P Q R T U:Int) (V:Bool) (W X Y Z:LL) (aa ab:Int) (ac ad ae af ag ah ai aj:LL) (ak al:Int) (am an ao ap aq ar aZ au:LL) (av:Bool) (aw:Int) (ax ay az a0 a1 a2 a3 a4:LL):Option (LL×Int):=F14.S.g [.i a,.i c,.i d,.i e,.i f,.i h,.i j,.i k,.i m,.i n,.i o,.b p,.i q,.i r,.i s,.i t,.i u,.i v,.i w,.i x,.i y,.i z,.i A,.i C,.i D,.i E,.i G,.i H,.i J,.i K,.i L,.i M,.l N,.i O,.i P,.i Q,.i R,.i T,.i U,.b V,.l W,.l X,.l Y,.l Z,.i aa,.i ab,.l ac,.l ad,.l ae,.l af,.l ag,.l ah,.l ai,.l aj,.i ak,.i al,.l am,.l an,.l ao,.l ap,.l aq,.l ar,.l aZ,.l au,.b av,.i aw,.l ax,.l ay,.l az,.l a0,.l a1,.l a2,.l a3,.l a4]
noncomputable def Znt (k:Nat) (a c d e f g h j m n o:Int) (p:Bool) (q r s t u v w x y z A C D E G H J K L M:Int) (N:LL) (O P Q R T U:Int) (V:Bool) (W X Y Z:LL) (aa ab:Int) (ac ad ae af ag ah ai aj:LL) (ak al:Int) (am an ao ap aq ar aZ au:LL) (av:Bool) (aw:Int) (ax ay az a0 a1 a2 a3 a4 a5:LL) (a6 a7:Int) (a8:LL):Option (LL×Int):=F14.lp [0,1,0,1,2] 0 r0 k [.i a,.i c,.i d,.i e,.i f,.i g,.i h,.i j,.i m,.i n,.i o,.b p,.i q,.i r,.i s,.i t,.i u,.i v,.i w,.i x,.i y,.i z,.i A,.i C,.i D,.i E,.i G,.i H,.i J,.i K,.i L,.i M,.l N,.i O,.i P,.i Q,.i R,.i T,.i U,.b V,.l W,.l X,.l Y,.l Z,.i aa,.i ab,.l ac,.l ad,.l ae,.l af,.l ag,.l ah,.l ai,.l aj,.i ak,.i al,.l am,.l an,.l ao,.l ap,.l aq,.l ar,.l aZ,.l au,.b av,.i aw,.l ax,.l ay,.l az,.l a0,.l a1,.l a2,.l a3,.l a4,.l a5,.i a6,.i a7,.l a8]
theorem Zj5 (k:Nat) (b c d e f g h i j l m:Int) (n:Bool) (o p q r s t u v w x y z A C D E G H J K:Int) (L:LL) (M N O P Q R:Int) (T:Bool) (U V W X:LL) (Y Z:Int) (aa ab ac ad ae af ag ah:LL) (ai aj:Int) (ak al am an ao ap aq ar:LL) (aZ:Bool) (au:Int) (av aw ax ay az a0 a1 a2 a3:LL) (a4 a:Int) (a5:LL):Znt (k+1) b c d e f g h i j l m n o p q r s t u v w x y z A C D E G H J K L M N O P Q R T U V W X Y Z aa ab ac ad ae af ag ah ai aj ak al am an ao ap aq ar aZ au av aw ax ay az a0 a1 a2 a3 a4 a a5 =
 (if (cop .lss a a4) then
 Zm a3 a [.int .i64] fun (a6:Int)=>
 (g39 a5 b c d e f g h i j l m n o p q r s t u v w x y z A C D E G H J K L M N O P Q R T U V W X Y Z aa ab ac ad ae af ag ah ai aj ak al am an ao ap aq ar aZ au av aw ax ay az a0 a1 a2 a6).bind fun a7=>
 Znt k b c d e f g h i j l m n o p q r s t u v w x y z A C D E G H J K L M N O P Q R T U V W X Y Z aa ab ac ad ae af ag ah ai aj ak al am an ao ap aq ar aZ au av aw ax ay az a0 a1 a2 a3 a4 (iop .add .i64 a 1) a7
 else
 some (a5,0)):=by kernel_rfl
noncomputable def ZpA (k:Nat) (a c d e f g h j m n o:Int) (p:Bool) (q r s t u v w x y z A C D E G H J K L M:Int) (N:LL) (O P Q R T U:Int) (V:Bool) (W X Y Z:LL) (aa ab:Int) (ac ad ae af ag ah ai aj:LL) (ak al:Int) (am an ao ap aq ar aZ au:LL) (av:Bool) (aw:Int) (ax ay az a0 a1 a2 a3 a4 a5:LL) (a6 a7:Int) (a8:LL):Option (LL×Int):=F14.lp [0,1,0] 0 r0 k [.i a,.i c,.i d,.i e,.i f,.i g,.i h,.i j,.i m,.i n,.i o,.b p,.i q,.i r,.i s,.i t,.i u,.i v,.i w,.i x,.i y,.i z,.i A,.i C,.i D,.i E,.i G,.i H,.i J,.i K,.i L,.i M,.l N,.i O,.i P,.i Q,.i R,.i T,.i U,.b V,.l W,.l X,.l Y,.l Z,.i aa,.i ab,.l ac,.l ad,.l ae,.l af,.l ag,.l ah,.l ai,.l aj,.i ak,.i al,.l am,.l an,.l ao,.l ap,.l aq,.l ar,.l aZ,.l au,.b av,.i aw,.l ax,.l ay,.l az,.l a0,.l a1,.l a2,.l a3,.l a4,.l a5,.i a6,.i a7,.l a8]
theorem Zkf (k:Nat) (a d e f g h i j l m n:Int) (o:Bool) (p q r s t u v w x y z A C D E G H J K L:Int) (M:LL) (N O P Q R T:Int) (U:Bool) (V W X Y:LL) (Z aa:Int) (ab ac ad ae af ag ah ai:LL) (aj ak:Int) (al am an ao ap aq ar aZ:LL) (au:Bool) (av:Int) (aw ax ay az a0 a1 a2 a3 a4:LL) (a5 b:Int) (a6:LL):ZpA (k+1) a d e f g h i j l m n o p q r s t u v w x y z A C D E G H J K L M N O P Q R T U V W X Y Z aa ab ac ad ae af ag ah ai aj ak al am an ao ap aq ar aZ au av aw ax ay az a0 a1 a2 a3 a4 a5 b a6 =
 (if (cop .lss b a5) then
 Zm a4 b [.int .i64] fun (c:Int)=>
 (g38 a6 c).bind fun a7=>
 ZpA k a d e f g h i j l m n o p q r s t u v w x y z A C D E G H J K L M N O P Q R T U V W X Y Z aa ab ac ad ae af ag ah ai aj ak al am an ao ap aq ar aZ au av aw ax ay az a0 a1 a2 a3 a4 a5 (iop .add .i64 b 1) a7
 else
 (g32 a).bind fun c=>
 Znt Zr a d e f g h i j l m n o p q r s t u v w x y z A C D E G H J K L M N O P Q R T U V W X Y Z aa ab ac ad ae af ag ah ai aj ak al am an ao ap aq ar aZ au av aw ax ay az a0 a1 a2 a3 c.1 (List.length c.1:Int) 0 a6):=by kernel_rfl
theorem ZwE (a b c d e f g h i j k:Int) (l:Bool) (m n o p q r s t u v w x y z A C D E G H:Int) (J:LL) (K L M N O P:Int) (Q:Bool) (R T U V:LL) (W X:Int) (Y Z aa ab ac ad ae af:LL) (ag ah:Int) (ai aj ak al am an ao ap:LL) (aq:Bool) (ar:Int) (aZ au av aw ax ay az a0:LL):g14 a b c d e f g h i j k l m n o p q r s t u v w x y z A C D E G H J K L M N O P Q R T U V W X Y Z aa ab ac ad ae af ag ah ai aj ak al am an ao ap aq ar aZ au av aw ax ay az a0 =
 ((g12 a b c d e f g h i j k l m n o p q r s t u v w x y z A C D E G H J K L M N O P Q R T U V W X Y Z aa ab ac ad ae af ag ah ai aj ak al am an ao ap aq ar aZ au av aw ax ay az a0).bind fun a1=>
 if (!a1) then
 some (E0,1)
 else
 ZpA Zr a b c d e f g h i j k l m n o p q r s t u v w x y z A C D E G H J K L M N O P Q R T U V W X Y Z aa ab ac ad ae af ag ah ai aj ak al am an ao ap aq ar aZ au av aw ax ay az a0 ((((E0++[[AV.val (.int .i64 a)]])++[[AV.val (.int .i64 b)]])++[[AV.val (.int .i64 c)]])++[[AV.val (.int .i64 d)]]) (List.length ((((E0++[[AV.val (.int .i64 a)]])++[[AV.val (.int .i64 b)]])++[[AV.val (.int .i64 c)]])++[[AV.val (.int .i64 d)]]):Int) 0 E0):=by kernel_rfl
noncomputable def Zse:Fn:=⟨21,[4],[(1,[(0,.c (.own true 5)),(1,.c (.int .i64))])],[],0,[4,13,20],[],Tryz.f124,[.c (.own true 5),.c (.int .i64)],[.c (.own true 5)],[]⟩
theorem Zsr:Zse.S.Ok Tryz.prog 124:=Zse.ok Tryz.func124 (by kernel_rfl) trivial
noncomputable def ZtI (a:LL) (b:Int):Option (LL):=Zse.S.g [.l a,.i b]
noncomputable def ZhO (k:Nat) (a:LL) (b:Int):Option (LL):=Zse.lp [0] 0 r0 k [.l a,.i b]
theorem Zg4 (k:Nat) (b:LL) (a:Int):ZhO (k+1) b a =
 (if (cop .geq a 128) then
 ZE ((128:Int)≠0)<|
 ZE (Jw b (E0++[[AV.val (.int .u8 (IntKind.wrap .u8 (iop .add .i64 (iop .rem .i64 a 128) 128)))]]) 1)<|
 ZE ((128:Int)≠0)<|
 ZhO k (b++(E0++[[AV.val (.int .u8 (IntKind.wrap .u8 (iop .add .i64 (iop .rem .i64 a 128) 128)))]])) (iop .quo .i64 a 128)
 else
 ZE (Jw b (E0++[[AV.val (.int .u8 (IntKind.wrap .u8 a))]]) 1)<|
 some ((b++(E0++[[AV.val (.int .u8 (IntKind.wrap .u8 a))]])))):=by kernel_rfl
theorem ZrR (a:LL) (b:Int):ZtI a b =
 (ZhO Zr a b):=by kernel_rfl
noncomputable def F40:Fn:=⟨8,[4],[],[],0,[4],[],Tryz.f40,[.c (.own true 5),.c (.int .i64)],[.c (.own true 5)],[(124,Zse.S)]⟩
theorem Zo4:F40.S.Ok Tryz.prog 40:=F40.ok Tryz.func40 (by kernel_rfl) ⟨Zsr,trivial⟩
noncomputable def g40 (a:LL) (b:Int):Option (LL):=F40.S.g [.l a,.i b]
theorem Zvz (a:LL) (b:Int):g40 a b =
 ((ZtI a b).bind fun c=>
 some (c)):=by kernel_rfl
noncomputable def F43:Fn:=⟨15,[4],[],[],0,[4],[],Tryz.f43,[.c (.own true 5),.agg [.int .i64,.int .i64,.int .i64]],[.c (.own true 5)],[(124,Zse.S)]⟩
theorem Zww:F43.S.Ok Tryz.prog 43:=F43.ok Tryz.func43 (by kernel_rfl) ⟨Zsr,trivial⟩
noncomputable def g43 (a:LL) (b c d:Int):Option (LL):=F43.S.g [.l a,.i b,.i c,.i d]
theorem Zrg (a:LL) (b c d:Int):g43 a b c d =
 ((ZtI a b).bind fun e=>
 (ZtI e c).bind fun f=>
 (ZtI f d).bind fun g=>
 some (g)):=by kernel_rfl
noncomputable def ZvI:Fn:=⟨29,[4],[(4,[(0,.c (.own true 5)),(5,.c (.int .u64))])],[],0,[4,21,28],[],Tryz.f182,[.c (.own true 5),.c (.int .i64)],[.c (.own true 5)],[]⟩
theorem ZCr:ZvI.S.Ok Tryz.prog 182:=ZvI.ok Tryz.func182 (by kernel_rfl) trivial
noncomputable def ZAb (a:LL) (b:Int):Option (LL):=ZvI.S.g [.l a,.i b]
noncomputable def ZeD (k:Nat) (a:LL) (b:Int):Option (LL):=ZvI.lp [2,0] 0 r0 k [.l a,.i b]
theorem ZgA (k:Nat) (b:LL) (a:Int):ZeD (k+1) b a =
 (if (cop .geq a 128) then
 ZE ((128:Int)≠0)<|
 ZE (Jw b (E0++[[AV.val (.int .u8 (IntKind.wrap .u8 (iop .add .u64 (iop .rem .u64 a 128) 128)))]]) 1)<|
 ZE ((128:Int)≠0)<|
 ZeD k (b++(E0++[[AV.val (.int .u8 (IntKind.wrap .u8 (iop .add .u64 (iop .rem .u64 a 128) 128)))]])) (iop .quo .u64 a 128)
 else
 ZE (Jw b (E0++[[AV.val (.int .u8 (IntKind.wrap .u8 a))]]) 1)<|
 some ((b++(E0++[[AV.val (.int .u8 (IntKind.wrap .u8 a))]])))):=by kernel_rfl
theorem Zr6 (b:LL) (a:Int):ZAb b a =
 (ZE ((0:Int)≤1)<|
 if (cop .lss a 0) then
 ZeD Zr b (iop .xor .u64 18446744073709551615 (iop .shl .u64 (IntKind.wrap .u64 a) 1))
 else
 ZeD Zr b (iop .shl .u64 (IntKind.wrap .u64 a) 1)):=by kernel_rfl
noncomputable def Zvc:Fn:=⟨45,[4],[(3,[(0,.c (.own true 5)),(5,.c (.own true 3)),(6,.c (.int .i64))])],[],0,[4,31],[],Tryz.f125,[.c (.own true 5),.agg hs13],[.c (.own true 5)],[(182,ZvI.S)]⟩
theorem ZBy:Zvc.S.Ok Tryz.prog 125:=Zvc.ok Tryz.func125 (by kernel_rfl) ⟨ZCr,trivial⟩
noncomputable def ZAE (a:LL) (b c d e f h j k m n o p:Int):Option (LL):=Zvc.S.g [.l a,.i b,.i c,.i d,.i e,.i f,.i h,.i j,.i k,.i m,.i n,.i o,.i p]
noncomputable def ZgH (k:Nat) (a b:LL) (c:Int):Option (LL):=Zvc.lp [0] 0 r0 k [.l a,.l b,.i c]
theorem ZhP (k:Nat) (c b:LL) (a:Int):ZgH (k+1) c b a =
 (if (cop .lss a (List.length b:Int)) then
 ZE ((0:Int)≤a)<|
 ZE ((a:Int) < (List.length b:Int))<|
 Zm b a [.int .i64] fun (d:Int)=>
 (ZAb c d).bind fun e=>
 ZgH k e b (iop .add .i64 a 1)
 else
 some (c)):=by kernel_rfl
theorem Zr2 (a:LL) (b c d e f g h i j k l m:Int):ZAE a b c d e f g h i j k l m =
 (ZgH Zr a ((((((((((((E0++[[AV.val (.int .i64 b)]])++[[AV.val (.int .i64 c)]])++[[AV.val (.int .i64 d)]])++[[AV.val (.int .i64 e)]])++[[AV.val (.int .i64 f)]])++[[AV.val (.int .i64 g)]])++[[AV.val (.int .i64 h)]])++[[AV.val (.int .i64 i)]])++[[AV.val (.int .i64 j)]])++[[AV.val (.int .i64 k)]])++[[AV.val (.int .i64 l)]])++[[AV.val (.int .i64 m)]]) 0):=by kernel_rfl
noncomputable def Zwm:Fn:=⟨47,[2,3],[(8,[(1,.box hs27),(5,.c (.own true 5)),(6,.c (.int .i64))])],[],0,[2,30,45],[],Tryz.f183,[.agg hs27],[.c (.own true 5),.c (.int .i64)],[(130,ZtN.S)]⟩
theorem ZCw:Zwm.S.Ok Tryz.prog 183:=Zwm.ok Tryz.func183 (by kernel_rfl) ⟨Zqz,trivial⟩
noncomputable def ZBE (a c d e f h:Int) (j:Bool):Option (LL×Int):=Zwm.S.g [.i a,.i c,.i d,.i e,.i f,.i h,.b j]
noncomputable def ZhQ (k:Nat) (a c d e f g:Int) (h:Bool) (j:LL) (m:Int):Option (LL×Int):=Zwm.lp [0,1,0,0] 0 r0 k [.i a,.i c,.i d,.i e,.i f,.i g,.b h,.l j,.i m]
theorem Vv (k:Nat) (d b e f g h:Int) (i:Bool) (c:LL) (a:Int):ZhQ (k+1) d b e f g h i c a =
 (if (cop .lss a 5) then
 ZE ((0:Int)≤(IntKind.wrap .u64 (iop .mul .i64 8 a)))<|
 ZE (Jw c (E0++[[AV.val (.int .u8 (IntKind.wrap .u8 (iop .and .i64 (iop .shr .i64 b (IntKind.wrap .u64 (iop .mul .i64 8 a))) 255)))]]) 1)<|
 ZhQ k d b e f g h i (c++(E0++[[AV.val (.int .u8 (IntKind.wrap .u8 (iop .and .i64 (iop .shr .i64 b (IntKind.wrap .u64 (iop .mul .i64 8 a))) 255)))]])) (iop .add .i64 a 1)
 else
 some (c,0)):=by kernel_rfl
theorem ZrF (a g b c d e:Int) (f:Bool):ZBE a g b c d e f =
 ((Zux a g b c d e f).bind fun h=>
 if (!h) then
 some (E0,1)
 else
 if f then
 ZhQ Zr a g b c d e f (((((E0++[[AV.val (.int .u8 (IntKind.wrap .u8 a))]])++[[AV.val (.int .u8 (IntKind.wrap .u8 b))]])++[[AV.val (.int .u8 (IntKind.wrap .u8 (iop .add .i64 c 8)))]])++[[AV.val (.int .u8 (IntKind.wrap .u8 d))]])++[[AV.val (.int .u8 (IntKind.wrap .u8 e))]]) 0
 else
 ZhQ Zr a g b c d e f (((((E0++[[AV.val (.int .u8 (IntKind.wrap .u8 a))]])++[[AV.val (.int .u8 (IntKind.wrap .u8 b))]])++[[AV.val (.int .u8 (IntKind.wrap .u8 c))]])++[[AV.val (.int .u8 (IntKind.wrap .u8 d))]])++[[AV.val (.int .u8 (IntKind.wrap .u8 e))]]) 0):=by kernel_rfl
noncomputable def ZwK:Fn:=⟨41,[2,3],[(5,[(1,.box hs16),(4,.c (.own true 5)),(5,.c (.int .i64))])],[],0,[2,40],[(9,[(6,0)])],Tryz.f126,[.agg hs16],[.c (.own true 5),.c (.int .i64)],[(61,F61.S),(43,F43.S),(124,Zse.S),(183,Zwm.S)]⟩
theorem ZAk:ZwK.S.Ok Tryz.prog 126:=ZwK.ok Tryz.func126 (by kernel_rfl) ⟨ZuM,⟨Zww,⟨Zsr,⟨ZCw,trivial⟩⟩⟩⟩
noncomputable def ZA4 (a c d:Int) (e:LL) (f h j k m n:Int) (o:Bool):Option (LL×Int):=ZwK.S.g [.i a,.i c,.i d,.l e,.i f,.i h,.i j,.i k,.i m,.i n,.b o]
noncomputable def ZkQ (k:Nat) (a c d:Int) (e:LL) (f g h j m n:Int) (o:Bool) (p:LL) (q:Int):Option (LL×Int):=ZwK.lp [0,1,3] 0 r0 k [.i a,.i c,.i d,.l e,.i f,.i g,.i h,.i j,.i m,.i n,.b o,.l p,.i q]
theorem Zhx (k:Nat) (m n o:Int) (b:LL) (e f g h i j:Int) (l:Bool) (c:LL) (d:Int):ZkQ (k+1) m n o b e f g h i j l c d =
 (if (cop .lss d (List.length b:Int)) then
 Zm b d [.int .i64,.int .i64,.int .i64] fun (a:Int×Int×Int)=>
 (g43 c a.1 a.2.1 a.2.2).bind fun p=>
 ZkQ k m n o b e f g h i j l p (iop .add .i64 d 1)
 else
 (ZBE e f g h i j l).bind fun a=>
 ZE (Jw c a.1 1)<|
 some ((c++a.1),0)):=by kernel_rfl
theorem ZrD (a b c:Int) (d:LL) (e f g h i j:Int) (k:Bool):ZA4 a b c d e f g h i j k =
 ((g61 a b c d e f g h i j k).bind fun l=>
 if (!l) then
 some (E0,1)
 else
 (g43 E0 a b c).bind fun m=>
 (ZtI m (List.length d:Int)).bind fun n=>
 ZkQ Zr a b c d e f g h i j k n 0):=by kernel_rfl
noncomputable def F49:Fn:=⟨18,[4],[],[],0,[4,17],[(2,[(5,0)])],Tryz.f49,[.c (.own true 5),.agg hs16],[.c (.own true 5)],[(126,ZwK.S),(40,F40.S)]⟩
theorem ZCD:F49.S.Ok Tryz.prog 49:=F49.ok Tryz.func49 (by kernel_rfl) ⟨ZAk,⟨Zo4,trivial⟩⟩
noncomputable def g49 (a:LL) (c d e:Int) (f:LL) (h j k m n o:Int) (p:Bool):Option (LL):=F49.S.g [.l a,.i c,.i d,.i e,.l f,.i h,.i j,.i k,.i m,.i n,.i o,.b p]
theorem Zvh (b:LL) (c d e:Int) (f:LL) (g h i j k l:Int) (m:Bool):g49 b c d e f g h i j k l m =
 ((ZA4 c d e f g h i j k l m).bind fun a=>
 (g40 b (List.length a.1:Int)).bind fun n=>
 ZE (Jw n a.1 1)<|
 some ((n++a.1))):=by kernel_rfl
noncomputable def F41:Fn:=⟨22,[4],[],[],0,[4],[],Tryz.f41,[.c (.own true 5),.agg hs6],[.c (.own true 5)],[(43,F43.S),(125,Zvc.S),(40,F40.S),(49,F49.S)]⟩
theorem ZCM:F41.S.Ok Tryz.prog 41:=F41.ok Tryz.func41 (by kernel_rfl) ⟨Zww,⟨ZBy,⟨Zo4,⟨ZCD,trivial⟩⟩⟩⟩
noncomputable def g41 (a:LL) (c d e f h j k m n o p q r s t u v w x y:Int) (z:LL) (A C D E G H:Int) (J:Bool):Option (LL):=F41.S.g [.l a,.i c,.i d,.i e,.i f,.i h,.i j,.i k,.i m,.i n,.i o,.i p,.i q,.i r,.i s,.i t,.i u,.i v,.i w,.i x,.i y,.l z,.i A,.i C,.i D,.i E,.i G,.i H,.b J]
theorem Zye (a:LL) (b c d e f g h i j k l m n o p q r s t u:Int) (v:LL) (w x y z A C:Int) (D:Bool):g41 a b c d e f g h i j k l m n o p q r s t u v w x y z A C D =
 ((g43 a b c d).bind fun E=>
 (ZAE E e f g h i j k l m n o p).bind fun G=>
 (g40 G q).bind fun H=>
 (g40 H r).bind fun J=>
 (g49 J s t u v w x y z A C D).bind fun K=>
 some (K)):=by kernel_rfl
noncomputable def F42:Fn:=⟨10,[4],[],[],0,[4],[],Tryz.f42,[.c (.own true 5),.c (.bool)],[.c (.own true 5)],[(40,F40.S)]⟩
theorem ZCY:F42.S.Ok Tryz.prog 42:=F42.ok Tryz.func42 (by kernel_rfl) ⟨Zo4,trivial⟩
noncomputable def g42 (a:LL) (c:Bool):Option (LL):=F42.S.g [.l a,.b c]
theorem ZvB (a:LL) (c:Bool):g42 a c =
 (if c then
 (g40 a 1).bind fun b=>
 some (b)
 else
 (g40 a 0).bind fun b=>
 some (b)):=by kernel_rfl
noncomputable def F44:Fn:=⟨23,[4],[(3,[(0,.c (.own true 5)),(1,.c (.slice 3)),(5,.c (.int .i64))])],[],0,[4],[],Tryz.f44,[.c (.own true 5),.c (.slice 3)],[.c (.own true 5)],[(40,F40.S),(43,F43.S)]⟩
theorem ZDz:F44.S.Ok Tryz.prog 44:=F44.ok Tryz.func44 (by kernel_rfl) ⟨Zo4,⟨Zww,trivial⟩⟩
noncomputable def g44 (a b:LL):Option (LL):=F44.S.g [.l a,.l b]
noncomputable def ZpB (k:Nat) (a b:LL) (c:Int):Option (LL):=F44.lp [2] 0 r0 k [.l a,.l b,.i c]
theorem Zk3 (k:Nat) (c a:LL) (b:Int):ZpB (k+1) c a b =
 (if (cop .lss b (List.length a:Int)) then
 Zm a b [.int .i64,.int .i64,.int .i64] fun (d:Int×Int×Int)=>
 (g43 c d.1 d.2.1 d.2.2).bind fun e=>
 ZpB k e a (iop .add .i64 b 1)
 else
 some (c)):=by kernel_rfl
theorem ZxD (b a:LL):g44 b a =
 ((g40 b (List.length a:Int)).bind fun c=>
 ZpB Zr c a 0):=by kernel_rfl
noncomputable def F45:Fn:=⟨23,[4],[(3,[(0,.c (.own true 5)),(1,.c (.slice 1)),(5,.c (.int .i64))])],[],0,[4],[],Tryz.f45,[.c (.own true 5),.c (.slice 1)],[.c (.own true 5)],[(40,F40.S)]⟩
theorem ZDv:F45.S.Ok Tryz.prog 45:=F45.ok Tryz.func45 (by kernel_rfl) ⟨Zo4,trivial⟩
noncomputable def g45 (a b:LL):Option (LL):=F45.S.g [.l a,.l b]
noncomputable def Zpn (k:Nat) (a b:LL) (c:Int):Option (LL):=F45.lp [2] 0 r0 k [.l a,.l b,.i c]
theorem ZkG (k:Nat) (c a:LL) (b:Int):Zpn (k+1) c a b =
 (if (cop .lss b (List.length a:Int)) then
 Zm a b [.int .i64] fun (d:Int)=>
 (g40 c d).bind fun e=>
 Zpn k e a (iop .add .i64 b 1)
 else
 some (c)):=by kernel_rfl
theorem Zwh (b a:LL):g45 b a =
 ((g40 b (List.length a:Int)).bind fun c=>
 Zpn Zr c a 0):=by kernel_rfl
noncomputable def F48:Fn:=⟨15,[4],[],[],0,[4],[],Tryz.f48,[.c (.own true 5),.agg [.int .i64,.slice 1,.slice 1]],[.c (.own true 5)],[(40,F40.S),(45,F45.S)]⟩
theorem ZCQ:F48.S.Ok Tryz.prog 48:=F48.ok Tryz.func48 (by kernel_rfl) ⟨Zo4,⟨ZDv,trivial⟩⟩
noncomputable def g48 (a:LL) (b:Int) (c d:LL):Option (LL):=F48.S.g [.l a,.i b,.l c,.l d]
theorem Zvi (a:LL) (b:Int) (c d:LL):g48 a b c d =
 ((g40 a b).bind fun e=>
 (g45 e c).bind fun f=>
 (g45 f d).bind fun g=>
 some (g)):=by kernel_rfl
noncomputable def F47:Fn:=⟨155,[4],[(3,[(0,.c (.own true 5)),(3,.box hs30),(5,.c (.int .i64))]),(8,[(0,.c (.own true 5)),(3,.box hs30),(6,.c (.int .i64))]),(13,[(0,.c (.own true 5)),(3,.box hs30),(7,.c (.int .i64))]),(18,[(0,.c (.own true 5)),(3,.box hs30),(8,.c (.int .i64))]),(23,[(0,.c (.own true 5)),(3,.box hs30),(9,.c (.int .i64))])],[],0,[4],[],Tryz.f47,[.c (.own true 5),.agg hs30],[.c (.own true 5)],[(40,F40.S),(49,F49.S),(43,F43.S),(41,F41.S),(44,F44.S)]⟩
theorem ZDu:F47.S.Ok Tryz.prog 47:=F47.ok Tryz.func47 (by kernel_rfl) ⟨Zo4,⟨ZCD,⟨Zww,⟨ZCM,⟨ZDz,trivial⟩⟩⟩⟩⟩
noncomputable def g47 (a b c d e f h:LL):Option (LL):=F47.S.g [.l a,.l b,.l c,.l d,.l e,.l f,.l h]
noncomputable def ZoB (k:Nat) (a b c d e f g:LL) (h:Int):Option (LL):=F47.lp [2,1,2,1,2,1,2,1,2] 0 r0 k [.l a,.l b,.l c,.l d,.l e,.l f,.l g,.i h]
theorem ZkF (k:Nat) (d g h i j b e:LL) (c:Int):ZoB (k+1) d g h i j b e c =
 (if (cop .lss c (List.length b:Int)) then
 Zm b c hs12 fun (f:Qt25)=>
 (g40 d f.1).bind fun l=>
 Zm b c hs12 fun (m:Qt25)=>
 (g40 l m.2.1).bind fun n=>
 Zm b c hs12 fun (a:Qt25)=>
 (g49 n a.2.2.1 a.2.2.2.1 a.2.2.2.2.1 a.2.2.2.2.2.1 a.2.2.2.2.2.2.1 a.2.2.2.2.2.2.2.1 a.2.2.2.2.2.2.2.2.1 a.2.2.2.2.2.2.2.2.2.1 a.2.2.2.2.2.2.2.2.2.2.1 a.2.2.2.2.2.2.2.2.2.2.2.1 (d4 (d8 a))).bind fun o=>
 ZoB k o g h i j b e (iop .add .i64 c 1)
 else
 (g44 d e).bind fun f=>
 some (f)):=by kernel_rfl
noncomputable def ZnY (k:Nat) (a b c d e f g:LL) (h:Int):Option (LL):=F47.lp [2,1,2,1,2,1,2] 0 r0 k [.l a,.l b,.l c,.l d,.l e,.l f,.l g,.i h]
theorem ZkW (k:Nat) (d e f g a c h:LL) (b:Int):ZnY (k+1) d e f g a c h b =
 (if (cop .lss b (List.length a:Int)) then
 Zm a b [.int .i64,.int .i64] fun (i:Int×Int)=>
 (g40 d i.1).bind fun j=>
 Zm a b [.int .i64,.int .i64] fun (l:Int×Int)=>
 (g40 j l.2).bind fun m=>
 ZnY k m e f g a c h (iop .add .i64 b 1)
 else
 (g40 d (List.length c:Int)).bind fun i=>
 ZoB Zr i e f g a c h 0):=by kernel_rfl
noncomputable def Zoj (k:Nat) (a b c d e f g:LL) (h:Int):Option (LL):=F47.lp [2,1,2,1,2] 0 r0 k [.l a,.l b,.l c,.l d,.l e,.l f,.l g,.i h]
theorem ZjN (k:Nat) (d e f a c g h:LL) (b:Int):Zoj (k+1) d e f a c g h b =
 (if (cop .lss b (List.length a:Int)) then
 Zm a b [.int .i64,.int .i64,.int .i64,.int .i64] fun (i:Int×Int×Int×Int)=>
 (g40 d i.1).bind fun l=>
 Zm a b [.int .i64,.int .i64,.int .i64,.int .i64] fun (j:Int×Int×Int×Int)=>
 (g43 l j.2.1 j.2.2.1 j.2.2.2).bind fun m=>
 Zoj k m e f a c g h (iop .add .i64 b 1)
 else
 (g40 d (List.length c:Int)).bind fun i=>
 ZnY Zr i e f a c g h 0):=by kernel_rfl
noncomputable def Zm0 (k:Nat) (a b c d e f g:LL) (h:Int):Option (LL):=F47.lp [2,1,2] 0 r0 k [.l a,.l b,.l c,.l d,.l e,.l f,.l g,.i h]
theorem ZkL (k:Nat) (e f b c g h i:LL) (d:Int):Zm0 (k+1) e f b c g h i d =
 (if (cop .lss d (List.length b:Int)) then
 Zm b d hs6 fun (a:Qt10)=>
 (g41 e a.1 a.2.1 a.2.2.1 a.2.2.2.1 a.2.2.2.2.1 a.2.2.2.2.2.1 a.2.2.2.2.2.2.1 a.2.2.2.2.2.2.2.1 a.2.2.2.2.2.2.2.2.1 a.2.2.2.2.2.2.2.2.2.1 a.2.2.2.2.2.2.2.2.2.2.1 a.2.2.2.2.2.2.2.2.2.2.2.1 (d4 (d8 a)).1 (d4 (d8 a)).2.1 (d2 (d4 (d8 a))).1 (d2 (d4 (d8 a))).2.1 (d16 a).1 (d16 a).2.1 (d2 (d16 a)).1 (d2 (d16 a)).2.1 (d4 (d16 a)).1 (d4 (d16 a)).2.1 (d2 (d4 (d16 a))).1 (d2 (d4 (d16 a))).2.1 (d8 (d16 a)).1 (d8 (d16 a)).2.1 (d2 (d8 (d16 a))).1 (d2 (d8 (d16 a))).2).bind fun j=>
 Zm0 k j f b c g h i (iop .add .i64 d 1)
 else
 (g40 e (List.length c:Int)).bind fun a=>
 Zoj Zr a f b c g h i 0):=by kernel_rfl
noncomputable def ZoE (k:Nat) (a b c d e f g:LL) (h:Int):Option (LL):=F47.lp [2] 0 r0 k [.l a,.l b,.l c,.l d,.l e,.l f,.l g,.i h]
theorem Zks (k:Nat) (e b d f g h i:LL) (c:Int):ZoE (k+1) e b d f g h i c =
 (if (cop .lss c (List.length b:Int)) then
 Zm b c hs11 fun (a:Qt21)=>
 (g49 e a.1 a.2.1 a.2.2.1 a.2.2.2.1 a.2.2.2.2.1 a.2.2.2.2.2.1 a.2.2.2.2.2.2.1 a.2.2.2.2.2.2.2.1 a.2.2.2.2.2.2.2.2.1 a.2.2.2.2.2.2.2.2.2.1 a.2.2.2.2.2.2.2.2.2.2.1).bind fun l=>
 Zm b c hs11 fun (m:Qt21)=>
 (g40 l m.2.2.2.2.2.2.2.2.2.2.2.1).bind fun n=>
 Zm b c hs11 fun (j:Qt21)=>
 (g43 n (d4 (d8 j)).1 (d4 (d8 j)).2.1 (d2 (d4 (d8 j)))).bind fun o=>
 ZoE k o b d f g h i (iop .add .i64 c 1)
 else
 (g40 e (List.length d:Int)).bind fun a=>
 Zm0 Zr a b d f g h i 0):=by kernel_rfl
theorem Zx8 (b a c d e f g:LL):g47 b a c d e f g =
 ((g40 b (List.length a:Int)).bind fun h=>
 ZoE Zr h a c d e f g 0):=by kernel_rfl
noncomputable def F46:Fn:=⟨25,[4],[],[],0,[4],[],Tryz.f46,[.c (.own true 5),.agg hs7],[.c (.own true 5)],[(40,F40.S),(48,F48.S),(47,F47.S),(42,F42.S)]⟩
theorem ZD5:F46.S.Ok Tryz.prog 46:=F46.ok Tryz.func46 (by kernel_rfl) ⟨Zo4,⟨ZCQ,⟨ZDu,⟨ZCY,trivial⟩⟩⟩⟩
noncomputable def g46 (a:LL) (c d:Int) (e f h j k m n o:LL) (p:Bool) (q:Int) (r s t u v w x y:LL):Option (LL):=F46.S.g [.l a,.i c,.i d,.l e,.l f,.l h,.l j,.l k,.l m,.l n,.l o,.b p,.i q,.l r,.l s,.l t,.l u,.l v,.l w,.l x,.l y]
theorem ZxL (a:LL) (b c:Int) (d e f g h i j k:LL) (l:Bool) (m:Int) (n o p q r s t u:LL):g46 a b c d e f g h i j k l m n o p q r s t u =
 ((g40 a b).bind fun v=>
 (g48 v c d e).bind fun w=>
 (g47 w f g h i j k).bind fun x=>
 (g42 x l).bind fun y=>
 (g48 y m n o).bind fun z=>
 (g47 z p q r s t u).bind fun A=>
 some (A)):=by kernel_rfl
noncomputable def F15:Fn:=⟨195,[2,3],[(29,[(1,.box hs0),(4,.c (.own true 5)),(5,.c (.int .i64))]),(35,[(1,.box hs0),(4,.c (.own true 5)),(6,.c (.int .i64))])],[],0,[2],[],Tryz.f15,[.agg hs0],[.c (.own true 5),.c (.int .i64)],[(16,F16.S),(40,F40.S),(41,F41.S),(49,F49.S),(43,F43.S),(42,F42.S),(44,F44.S),(45,F45.S),(46,F46.S),(48,F48.S),(47,F47.S)]⟩
theorem ZEX:F15.S.Ok Tryz.prog 15:=F15.ok Tryz.func15 (by kernel_rfl) ⟨ZCZ,⟨Zo4,⟨ZCM,⟨ZCD,⟨Zww,⟨ZCY,⟨ZDz,⟨ZDv,⟨ZD5,⟨ZCQ,⟨ZDu,trivial⟩⟩⟩⟩⟩⟩⟩⟩⟩⟩⟩
noncomputable def g15 (a c d e f h j k m n o:Int) (p:Bool) (q r s t u v w x y z A C D E G H J K L M:Int) (N:LL) (O P Q R T U:Int) (V:Bool) (W X Y Z:LL) (aa ab:Int) (ac ad ae af ag ah ai aj:LL) (ak al:Int) (am an ao ap aq ar aZ au:LL) (av:Bool) (aw:Int) (ax ay az a0 a1 a2 a3 a4:LL):Option (LL×Int):=F15.S.g [.i a,.i c,.i d,.i e,.i f,.i h,.i j,.i k,.i m,.i n,.i o,.b p,.i q,.i r,.i s,.i t,.i u,.i v,.i w,.i x,.i y,.i z,.i A,.i C,.i D,.i E,.i G,.i H,.i J,.i K,.i L,.i M,.l N,.i O,.i P,.i Q,.i R,.i T,.i U,.b V,.l W,.l X,.l Y,.l Z,.i aa,.i ab,.l ac,.l ad,.l ae,.l af,.l ag,.l ah,.l ai,.l aj,.i ak,.i al,.l am,.l an,.l ao,.l ap,.l aq,.l ar,.l aZ,.l au,.b av,.i aw,.l ax,.l ay,.l az,.l a0,.l a1,.l a2,.l a3,.l a4]
noncomputable def YZ (k:Nat) (a c d e f g h j m n o:Int) (p:Bool) (q r s t u v w x y z A C D E G H J K L M:Int) (N:LL) (O P Q R T U:Int) (V:Bool) (W X Y Z:LL) (aa ab:Int) (ac ad ae af ag ah ai aj:LL) (ak al:Int) (am an ao ap aq ar aZ au:LL) (av:Bool) (aw:Int) (ax ay az a0 a1 a2 a3 a4 a5:LL) (a6:Int):Option (LL×Int):=F15.lp [0,1,5,3,2] 0 r0 k [.i a,.i c,.i d,.i e,.i f,.i g,.i h,.i j,.i m,.i n,.i o,.b p,.i q,.i r,.i s,.i t,.i u,.i v,.i w,.i x,.i y,.i z,.i A,.i C,.i D,.i E,.i G,.i H,.i J,.i K,.i L,.i M,.l N,.i O,.i P,.i Q,.i R,.i T,.i U,.b V,.l W,.l X,.l Y,.l Z,.i aa,.i ab,.l ac,.l ad,.l ae,.l af,.l ag,.l ah,.l ai,.l aj,.i ak,.i al,.l am,.l an,.l ao,.l ap,.l aq,.l ar,.l aZ,.l au,.b av,.i aw,.l ax,.l ay,.l az,.l a0,.l a1,.l a2,.l a3,.l a4,.l a5,.i a6]
theorem ZjI (k:Nat) (e f g h i j l m n o p:Int) (q:Bool) (r s t u v w x y z A C D E G H J K L M N:Int) (O:LL) (P Q R T U V:Int) (W:Bool) (X b Y Z:LL) (aa ab:Int) (ac ad ae af ag ah ai aj:LL) (ak al:Int) (am an ao ap aq ar aZ au:LL) (av:Bool) (aw:Int) (ax ay az a0 a1 a2 a3 a4 d:LL) (c:Int):YZ (k+1) e f g h i j l m n o p q r s t u v w x y z A C D E G H J K L M N O P Q R T U V W X b Y Z aa ab ac ad ae af ag ah ai aj ak al am an ao ap aq ar aZ au av aw ax ay az a0 a1 a2 a3 a4 d c =
 (if (cop .lss c (List.length b:Int)) then
 Zm b c hs16 fun (a:Qt31)=>
 (g49 d a.1 a.2.1 a.2.2.1 a.2.2.2.1 a.2.2.2.2.1 a.2.2.2.2.2.1 a.2.2.2.2.2.2.1 a.2.2.2.2.2.2.2.1 a.2.2.2.2.2.2.2.2.1 a.2.2.2.2.2.2.2.2.2.1 a.2.2.2.2.2.2.2.2.2.2).bind fun a5=>
 YZ k e f g h i j l m n o p q r s t u v w x y z A C D E G H J K L M N O P Q R T U V W X b Y Z aa ab ac ad ae af ag ah ai aj ak al am an ao ap aq ar aZ au av aw ax ay az a0 a1 a2 a3 a4 a5 (iop .add .i64 c 1)
 else
 some (d,0)):=by kernel_rfl
noncomputable def ZnB (k:Nat) (a c d e f g h j m n o:Int) (p:Bool) (q r s t u v w x y z A C D E G H J K L M:Int) (N:LL) (O P Q R T U:Int) (V:Bool) (W X Y Z:LL) (aa ab:Int) (ac ad ae af ag ah ai aj:LL) (ak al:Int) (am an ao ap aq ar aZ au:LL) (av:Bool) (aw:Int) (ax ay az a0 a1 a2 a3 a4 a5:LL) (a6:Int):Option (LL×Int):=F15.lp [0,1,4,1,1,1,1,1,1,1,1,1,1,0,3] 0 r0 k [.i a,.i c,.i d,.i e,.i f,.i g,.i h,.i j,.i m,.i n,.i o,.b p,.i q,.i r,.i s,.i t,.i u,.i v,.i w,.i x,.i y,.i z,.i A,.i C,.i D,.i E,.i G,.i H,.i J,.i K,.i L,.i M,.l N,.i O,.i P,.i Q,.i R,.i T,.i U,.b V,.l W,.l X,.l Y,.l Z,.i aa,.i ab,.l ac,.l ad,.l ae,.l af,.l ag,.l ah,.l ai,.l aj,.i ak,.i al,.l am,.l an,.l ao,.l ap,.l aq,.l ar,.l aZ,.l au,.b av,.i aw,.l ax,.l ay,.l az,.l a0,.l a1,.l a2,.l a3,.l a4,.l a5,.i a6]
theorem ZjH (k:Nat) (b g h i j l m n o p q:Int) (r:Bool) (s t u v w x y z A C D E G H J K L M N O:Int) (P:LL) (Q R T U V W:Int) (X:Bool) (Y c Z a:LL) (aa ab:Int) (ac ad ae af ag ah ai aj:LL) (ak al:Int) (am an ao ap aq ar aZ au:LL) (av:Bool) (aw:Int) (ax ay az a0 a1 a2 a3 a4 d:LL) (e:Int):ZnB (k+1) b g h i j l m n o p q r s t u v w x y z A C D E G H J K L M N O P Q R T U V W X Y c Z a aa ab ac ad ae af ag ah ai aj ak al am an ao ap aq ar aZ au av aw ax ay az a0 a1 a2 a3 a4 d e =
 (if (cop .lss e (List.length a:Int)) then
 Zm a e [.int .i64,.int .i64] fun (f:Int×Int)=>
 (g40 d f.1).bind fun a5=>
 Zm a e [.int .i64,.int .i64] fun (a6:Int×Int)=>
 (g40 a5 a6.2).bind fun a7=>
 ZnB k b g h i j l m n o p q r s t u v w x y z A C D E G H J K L M N O P Q R T U V W X Y c Z a aa ab ac ad ae af ag ah ai aj ak al am an ao ap aq ar aZ au av aw ax ay az a0 a1 a2 a3 a4 a7 (iop .add .i64 e 1)
 else
 if (cop .eql b 2) then
 (g40 d (List.length c:Int)).bind fun f=>
 YZ Zr b g h i j l m n o p q r s t u v w x y z A C D E G H J K L M N O P Q R T U V W X Y c Z a aa ab ac ad ae af ag ah ai aj ak al am an ao ap aq ar aZ au av aw ax ay az a0 a1 a2 a3 a4 f 0
 else
 if (cop .eql b 4) then
 (g40 d (List.length c:Int)).bind fun f=>
 YZ Zr b g h i j l m n o p q r s t u v w x y z A C D E G H J K L M N O P Q R T U V W X Y c Z a aa ab ac ad ae af ag ah ai aj ak al am an ao ap aq ar aZ au av aw ax ay az a0 a1 a2 a3 a4 f 0
 else
 some (d,0)):=by kernel_rfl
theorem Y4 (a m n o f d p g h i k:Int) (q:Bool) (r s t u v w x y z A C D E G H J K L M O:Int) (P:LL) (Q R T U V W:Int) (X:Bool) (Y b j Z:LL) (aa ab:Int) (ac ad ae af ag ah ai aj:LL) (ak al:Int) (am an ao ap aq ar aZ au:LL) (av:Bool) (aw:Int) (ax ay az a0 a1 a2 a3 a4:LL):g15 a m n o f d p g h i k q r s t u v w x y z A C D E G H J K L M O P Q R T U V W X Y b j Z aa ab ac ad ae af ag ah ai aj ak al am an ao ap aq ar aZ au av aw ax ay az a0 a1 a2 a3 a4 =
 ((g16 a m n o f d p g h i k q r s t u v w x y z A C D E G H J K L M O P Q R T U V W X Y b j Z aa ab ac ad ae af ag ah ai aj ak al am an ao ap aq ar aZ au av aw ax ay az a0 a1 a2 a3 a4).bind fun a9=>
 if (!a9) then
 some (E0,1)
 else
 (g40 E0 a).bind fun ba=>
 (g40 ba m).bind fun bb=>
 (g40 bb n).bind fun bc=>
 (g40 bc o).bind fun a6=>
 if (cop .eql a 1) then
 (g40 a6 d).bind fun l=>
 (g41 l r s t u v w x y z A C D E G H J K L M O P Q R T U V W X).bind fun c=>
 if (cop .eql a 2) then
 (g40 c (List.length b:Int)).bind fun e=>
 YZ Zr a m n o f d p g h i k q r s t u v w x y z A C D E G H J K L M O P Q R T U V W X Y b j Z aa ab ac ad ae af ag ah ai aj ak al am an ao ap aq ar aZ au av aw ax ay az a0 a1 a2 a3 a4 e 0
 else
 if (cop .eql a 4) then
 (g40 c (List.length b:Int)).bind fun e=>
 YZ Zr a m n o f d p g h i k q r s t u v w x y z A C D E G H J K L M O P Q R T U V W X Y b j Z aa ab ac ad ae af ag ah ai aj ak al am an ao ap aq ar aZ au av aw ax ay az a0 a1 a2 a3 a4 e 0
 else
 some (c,0)
 else
 if (cop .eql a 2) then
 (g40 a6 d).bind fun l=>
 (g43 l g h i).bind fun c=>
 (g40 c k).bind fun e=>
 (g42 e q).bind fun a5=>
 if (cop .eql a 2) then
 (g40 a5 (List.length b:Int)).bind fun a7=>
 YZ Zr a m n o f d p g h i k q r s t u v w x y z A C D E G H J K L M O P Q R T U V W X Y b j Z aa ab ac ad ae af ag ah ai aj ak al am an ao ap aq ar aZ au av aw ax ay az a0 a1 a2 a3 a4 a7 0
 else
 if (cop .eql a 4) then
 (g40 a5 (List.length b:Int)).bind fun a7=>
 YZ Zr a m n o f d p g h i k q r s t u v w x y z A C D E G H J K L M O P Q R T U V W X Y b j Z aa ab ac ad ae af ag ah ai aj ak al am an ao ap aq ar aZ au av aw ax ay az a0 a1 a2 a3 a4 a7 0
 else
 some (a5,0)
 else
 if (cop .eql a 4) then
 (g40 a6 d).bind fun l=>
 (g43 l g h i).bind fun c=>
 (g40 c p).bind fun e=>
 if (cop .eql a 2) then
 (g40 e (List.length b:Int)).bind fun a5=>
 YZ Zr a m n o f d p g h i k q r s t u v w x y z A C D E G H J K L M O P Q R T U V W X Y b j Z aa ab ac ad ae af ag ah ai aj ak al am an ao ap aq ar aZ au av aw ax ay az a0 a1 a2 a3 a4 a5 0
 else
 if (cop .eql a 4) then
 (g40 e (List.length b:Int)).bind fun a5=>
 YZ Zr a m n o f d p g h i k q r s t u v w x y z A C D E G H J K L M O P Q R T U V W X Y b j Z aa ab ac ad ae af ag ah ai aj ak al am an ao ap aq ar aZ au av aw ax ay az a0 a1 a2 a3 a4 a5 0
 else
 some (e,0)
 else
 if (cop .eql a 5) then
 (g40 a6 d).bind fun l=>
 (g43 l g h i).bind fun c=>
 (g40 c k).bind fun e=>
 if (cop .eql a 2) then
 (g40 e (List.length b:Int)).bind fun a5=>
 YZ Zr a m n o f d p g h i k q r s t u v w x y z A C D E G H J K L M O P Q R T U V W X Y b j Z aa ab ac ad ae af ag ah ai aj ak al am an ao ap aq ar aZ au av aw ax ay az a0 a1 a2 a3 a4 a5 0
 else
 if (cop .eql a 4) then
 (g40 e (List.length b:Int)).bind fun a5=>
 YZ Zr a m n o f d p g h i k q r s t u v w x y z A C D E G H J K L M O P Q R T U V W X Y b j Z aa ab ac ad ae af ag ah ai aj ak al am an ao ap aq ar aZ au av aw ax ay az a0 a1 a2 a3 a4 a5 0
 else
 some (e,0)
 else
 if (cop .eql a 6) then
 (g40 a6 d).bind fun l=>
 (g43 l g h i).bind fun c=>
 (g44 c Y).bind fun e=>
 if (cop .eql a 2) then
 (g40 e (List.length b:Int)).bind fun a5=>
 YZ Zr a m n o f d p g h i k q r s t u v w x y z A C D E G H J K L M O P Q R T U V W X Y b j Z aa ab ac ad ae af ag ah ai aj ak al am an ao ap aq ar aZ au av aw ax ay az a0 a1 a2 a3 a4 a5 0
 else
 if (cop .eql a 4) then
 (g40 e (List.length b:Int)).bind fun a5=>
 YZ Zr a m n o f d p g h i k q r s t u v w x y z A C D E G H J K L M O P Q R T U V W X Y b j Z aa ab ac ad ae af ag ah ai aj ak al am an ao ap aq ar aZ au av aw ax ay az a0 a1 a2 a3 a4 a5 0
 else
 some (e,0)
 else
 if (cop .eql a 12) then
 (g40 a6 f).bind fun l=>
 (g45 l j).bind fun c=>
 if (cop .eql a 2) then
 (g40 c (List.length b:Int)).bind fun e=>
 YZ Zr a m n o f d p g h i k q r s t u v w x y z A C D E G H J K L M O P Q R T U V W X Y b j Z aa ab ac ad ae af ag ah ai aj ak al am an ao ap aq ar aZ au av aw ax ay az a0 a1 a2 a3 a4 e 0
 else
 if (cop .eql a 4) then
 (g40 c (List.length b:Int)).bind fun e=>
 YZ Zr a m n o f d p g h i k q r s t u v w x y z A C D E G H J K L M O P Q R T U V W X Y b j Z aa ab ac ad ae af ag ah ai aj ak al am an ao ap aq ar aZ au av aw ax ay az a0 a1 a2 a3 a4 e 0
 else
 some (c,0)
 else
 if (cop .eql a 13) then
 (g40 a6 f).bind fun l=>
 (g46 l ak al am an ao ap aq ar aZ au av aw ax ay az a0 a1 a2 a3 a4).bind fun c=>
 if (cop .eql a 2) then
 (g40 c (List.length b:Int)).bind fun e=>
 YZ Zr a m n o f d p g h i k q r s t u v w x y z A C D E G H J K L M O P Q R T U V W X Y b j Z aa ab ac ad ae af ag ah ai aj ak al am an ao ap aq ar aZ au av aw ax ay az a0 a1 a2 a3 a4 e 0
 else
 if (cop .eql a 4) then
 (g40 c (List.length b:Int)).bind fun e=>
 YZ Zr a m n o f d p g h i k q r s t u v w x y z A C D E G H J K L M O P Q R T U V W X Y b j Z aa ab ac ad ae af ag ah ai aj ak al am an ao ap aq ar aZ au av aw ax ay az a0 a1 a2 a3 a4 e 0
 else
 some (c,0)
 else
 if (cop .eql a 14) then
 (g40 a6 f).bind fun l=>
 (g40 l aa).bind fun c=>
 (g45 c j).bind fun e=>
 (g48 e ab ac ad).bind fun a5=>
 (g47 a5 ae af ag ah ai aj).bind fun a7=>
 if (cop .eql a 2) then
 (g40 a7 (List.length b:Int)).bind fun a8=>
 YZ Zr a m n o f d p g h i k q r s t u v w x y z A C D E G H J K L M O P Q R T U V W X Y b j Z aa ab ac ad ae af ag ah ai aj ak al am an ao ap aq ar aZ au av aw ax ay az a0 a1 a2 a3 a4 a8 0
 else
 if (cop .eql a 4) then
 (g40 a7 (List.length b:Int)).bind fun a8=>
 YZ Zr a m n o f d p g h i k q r s t u v w x y z A C D E G H J K L M O P Q R T U V W X Y b j Z aa ab ac ad ae af ag ah ai aj ak al am an ao ap aq ar aZ au av aw ax ay az a0 a1 a2 a3 a4 a8 0
 else
 some (a7,0)
 else
 if (cop .eql a 15) then
 (g40 a6 f).bind fun l=>
 if (cop .eql a 2) then
 (g40 l (List.length b:Int)).bind fun c=>
 YZ Zr a m n o f d p g h i k q r s t u v w x y z A C D E G H J K L M O P Q R T U V W X Y b j Z aa ab ac ad ae af ag ah ai aj ak al am an ao ap aq ar aZ au av aw ax ay az a0 a1 a2 a3 a4 c 0
 else
 if (cop .eql a 4) then
 (g40 l (List.length b:Int)).bind fun c=>
 YZ Zr a m n o f d p g h i k q r s t u v w x y z A C D E G H J K L M O P Q R T U V W X Y b j Z aa ab ac ad ae af ag ah ai aj ak al am an ao ap aq ar aZ au av aw ax ay az a0 a1 a2 a3 a4 c 0
 else
 some (l,0)
 else
 if (cop .eql a 16) then
 (g40 a6 f).bind fun l=>
 if (cop .eql a 2) then
 (g40 l (List.length b:Int)).bind fun c=>
 YZ Zr a m n o f d p g h i k q r s t u v w x y z A C D E G H J K L M O P Q R T U V W X Y b j Z aa ab ac ad ae af ag ah ai aj ak al am an ao ap aq ar aZ au av aw ax ay az a0 a1 a2 a3 a4 c 0
 else
 if (cop .eql a 4) then
 (g40 l (List.length b:Int)).bind fun c=>
 YZ Zr a m n o f d p g h i k q r s t u v w x y z A C D E G H J K L M O P Q R T U V W X Y b j Z aa ab ac ad ae af ag ah ai aj ak al am an ao ap aq ar aZ au av aw ax ay az a0 a1 a2 a3 a4 c 0
 else
 some (l,0)
 else
 if (cop .eql a 17) then
 (g45 a6 j).bind fun l=>
 (g40 l (List.length Z:Int)).bind fun c=>
 ZnB Zr a m n o f d p g h i k q r s t u v w x y z A C D E G H J K L M O P Q R T U V W X Y b j Z aa ab ac ad ae af ag ah ai aj ak al am an ao ap aq ar aZ au av aw ax ay az a0 a1 a2 a3 a4 c 0
 else
 (g40 a6 d).bind fun l=>
 (g43 l g h i).bind fun c=>
 if (cop .eql a 2) then
 (g40 c (List.length b:Int)).bind fun e=>
 YZ Zr a m n o f d p g h i k q r s t u v w x y z A C D E G H J K L M O P Q R T U V W X Y b j Z aa ab ac ad ae af ag ah ai aj ak al am an ao ap aq ar aZ au av aw ax ay az a0 a1 a2 a3 a4 e 0
 else
 if (cop .eql a 4) then
 (g40 c (List.length b:Int)).bind fun e=>
 YZ Zr a m n o f d p g h i k q r s t u v w x y z A C D E G H J K L M O P Q R T U V W X Y b j Z aa ab ac ad ae af ag ah ai aj ak al am an ao ap aq ar aZ au av aw ax ay az a0 a1 a2 a3 a4 e 0
 else
 some (c,0)):=by kernel_rfl
end Go.Proofs.YtjldbnbdcmfbmaaGreat
