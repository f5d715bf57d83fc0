/- Functions of the program, as what they compute. -/
import Derived.Test.YtjldbnbdcmfbmaaGreatF8c
namespace Go.Proofs.YtjldbnbdcmfbmaaGreat
open Go Go.AM
set_option linter.unusedVariables false
set_option maxRecDepth 100000
noncomputable def ZrH:Fn:=⟨59,[4,5,6],[(4,[(0,.c (.slice 1)),(1,.c (.int .i64)),(4,.c (.int .u64)),(7,.c (.int .i64))])],[],0,[],[],Tryz.f131,[.c (.slice 1),.c (.int .i64)],[.c (.int .u64),.c (.int .i64),.c (.int .i64)],[]⟩
theorem ZsQ:ZrH.S.Ok Tryz.prog 131:=ZrH.ok Tryz.func131 (by kernel_rfl) trivial
noncomputable def Zu5 (a:LL) (b:Int):Option (Int×Int×Int):=ZrH.S.g [.l a,.i b]
noncomputable def Zbc (k:Nat) (a:LL) (b c d:Int):Option (Int×Int×Int):=ZrH.lp [1,1,0] 0 r0 k [.l a,.i b,.i c,.i d]
theorem Zhi (k:Nat) (e:LL) (c d a:Int):Zbc (k+1) e c d a =
 (if (cop .eql (iop .add .i64 c a) (List.length e:Int)) then
 some (0,0,52)
 else
 Zm e (iop .add .i64 c a) [.int .u8] fun (b:Int)=>
 if (cop .eql a 9) then
 if (cop .gtr b 1) then
 some (0,0,6)
 else
 if (cop .gtr a 0) then
 if (cop .eql b 0) then
 some (0,0,54)
 else
 Zz ((0:Int)≤(iop .mul .i64 7 a))<|
 if (cop .lss b 128) then
 some ((iop .or .u64 d (iop .shl .u64 (IntKind.wrap .u64 (iop .and .u8 b 127)) (iop .mul .i64 7 a))),(iop .add .i64 c (iop .add .i64 a 1)),0)
 else
 Zbc k e c (iop .or .u64 d (iop .shl .u64 (IntKind.wrap .u64 (iop .and .u8 b 127)) (iop .mul .i64 7 a))) (iop .add .i64 a 1)
 else
 Zz ((0:Int)≤(iop .mul .i64 7 a))<|
 if (cop .lss b 128) then
 some ((iop .or .u64 d (iop .shl .u64 (IntKind.wrap .u64 (iop .and .u8 b 127)) (iop .mul .i64 7 a))),(iop .add .i64 c (iop .add .i64 a 1)),0)
 else
 Zbc k e c (iop .or .u64 d (iop .shl .u64 (IntKind.wrap .u64 (iop .and .u8 b 127)) (iop .mul .i64 7 a))) (iop .add .i64 a 1)
 else
 if (cop .gtr a 0) then
 if (cop .eql b 0) then
 some (0,0,54)
 else
 Zz ((0:Int)≤(iop .mul .i64 7 a))<|
 if (cop .lss b 128) then
 some ((iop .or .u64 d (iop .shl .u64 (IntKind.wrap .u64 (iop .and .u8 b 127)) (iop .mul .i64 7 a))),(iop .add .i64 c (iop .add .i64 a 1)),0)
 else
 Zbc k e c (iop .or .u64 d (iop .shl .u64 (IntKind.wrap .u64 (iop .and .u8 b 127)) (iop .mul .i64 7 a))) (iop .add .i64 a 1)
 else
 Zz ((0:Int)≤(iop .mul .i64 7 a))<|
 if (cop .lss b 128) then
 some ((iop .or .u64 d (iop .shl .u64 (IntKind.wrap .u64 (iop .and .u8 b 127)) (iop .mul .i64 7 a))),(iop .add .i64 c (iop .add .i64 a 1)),0)
 else
 Zbc k e c (iop .or .u64 d (iop .shl .u64 (IntKind.wrap .u64 (iop .and .u8 b 127)) (iop .mul .i64 7 a))) (iop .add .i64 a 1)):=by kernel_rfl
theorem Zsj (b:LL) (a:Int):Zu5 b a =
 (if (cop .lss a 0) then
 some (0,0,6)
 else
 if (cop .gtr a (List.length b:Int)) then
 some (0,0,6)
 else
 Zbc ZB b a 0 0):=by kernel_rfl
noncomputable def F63:Fn:=⟨38,[2],[],[0],0,[],[],Tryz.f63,[.box [.slice 1,.int .i64,.bool]],[.c (.int .i64)],[(131,ZrH.S)]⟩
theorem Zov:F63.S.Ok Tryz.prog 63:=F63.ok Tryz.func63 (by kernel_rfl) ⟨ZsQ,trivial⟩
noncomputable def g63 (a:LL) (c:Int) (d:Bool):Option (Int×LL×Int×Bool):=F63.S.g [.l a,.i c,.b d]
theorem ZwI (a:LL) (b:Int) (c:Bool):g63 a b c =
 (if c then
 some (0,a,b,c)
 else
 (Zu5 a b).bind fun d=>
 if (cop .neq d.2.2 0) then
 some (0,a,b,true)
 else
 if (cop .gtr d.1 9223372036854775807) then
 some (0,a,b,true)
 else
 some ((IntKind.wrap .i64 d.1),a,d.2.1,c)):=by kernel_rfl
noncomputable def Zr5:Fn:=⟨10,[2],[],[0],0,[],[],Tryz.f133,[.box [.slice 1,.int .i64,.bool]],[.agg [.int .i64,.int .i64,.int .i64]],[(63,F63.S)]⟩
theorem ZpA:Zr5.S.Ok Tryz.prog 133:=Zr5.ok Tryz.func133 (by kernel_rfl) ⟨Zov,trivial⟩
noncomputable def ZuD (a:LL) (c:Int) (d:Bool):Option (Qt36):=Zr5.S.g [.l a,.i c,.b d]
theorem ZtC (d:LL) (e:Int) (f:Bool):ZuD d e f =
 ((g63 d e f).bind fun a=>
 (g63 a.2.1 a.2.2.1 a.2.2.2).bind fun b=>
 (g63 b.2.1 b.2.2.1 b.2.2.2).bind fun c=>
 some (a.1,b.1,c.1,c.2.1,c.2.2.1,c.2.2.2)):=by kernel_rfl
noncomputable def ZyL:Fn:=⟨29,[4,5,6],[],[],0,[],[],Tryz.f232,[.c (.slice 1),.c (.int .i64)],[.c (.int .i64),.c (.int .i64),.c (.int .i64)],[(131,ZrH.S)]⟩
theorem ZAs:ZyL.S.Ok Tryz.prog 232:=ZyL.ok Tryz.func232 (by kernel_rfl) ⟨ZsQ,trivial⟩
noncomputable def ZDc (a:LL) (b:Int):Option (Int×Int×Int):=ZyL.S.g [.l a,.i b]
theorem Zrq (b:LL) (c:Int):ZDc b c =
 ((Zu5 b c).bind fun a=>
 if (cop .neq a.2.2 0) then
 some (0,0,a.2.2)
 else
 Zz ((0:Int)≤1)<|
 if (cop .eql (iop .and .u64 a.1 1) 1) then
 some ((iop .sub .i64 (iop .sub .i64 0 (IntKind.wrap .i64 (iop .shr .u64 a.1 1))) 1),a.2.1,0)
 else
 some ((IntKind.wrap .i64 (iop .shr .u64 a.1 1)),a.2.1,0)):=by kernel_rfl
noncomputable def Zzq:Fn:=⟨33,[2],[],[0],0,[],[],Tryz.f220,[.box [.slice 1,.int .i64,.bool]],[.c (.int .i64)],[(232,ZyL.S)]⟩
theorem ZAD:Zzq.S.Ok Tryz.prog 220:=Zzq.ok Tryz.func220 (by kernel_rfl) ⟨ZAs,trivial⟩
noncomputable def ZkJ (a:LL) (c:Int) (d:Bool):Option (Int×LL×Int×Bool):=Zzq.S.g [.l a,.i c,.b d]
theorem ZuG (a:LL) (b:Int) (c:Bool):ZkJ a b c =
 (if c then
 some (0,a,b,c)
 else
 (ZDc a b).bind fun d=>
 if (cop .neq d.2.2 0) then
 some (0,a,b,true)
 else
 some (d.1,a,d.2.1,c)):=by kernel_rfl
noncomputable def ZzE:Fn:=⟨28,[2],[],[0],0,[],[],Tryz.f186,[.box [.slice 1,.int .i64,.bool]],[.agg hs13],[(220,Zzq.S)]⟩
theorem ZzM:ZzE.S.Ok Tryz.prog 186:=ZzE.ok Tryz.func186 (by kernel_rfl) ⟨ZAD,trivial⟩
noncomputable def ZCD (a:LL) (c:Int) (d:Bool):Option (Qt22):=ZzE.S.g [.l a,.i c,.b d]
theorem ZsW (m:LL) (n:Int) (o:Bool):ZCD m n o =
 ((ZkJ m n o).bind fun a=>
 (ZkJ a.2.1 a.2.2.1 a.2.2.2).bind fun b=>
 (ZkJ b.2.1 b.2.2.1 b.2.2.2).bind fun c=>
 (ZkJ c.2.1 c.2.2.1 c.2.2.2).bind fun d=>
 (ZkJ d.2.1 d.2.2.1 d.2.2.2).bind fun e=>
 (ZkJ e.2.1 e.2.2.1 e.2.2.2).bind fun f=>
 (ZkJ f.2.1 f.2.2.1 f.2.2.2).bind fun g=>
 (ZkJ g.2.1 g.2.2.1 g.2.2.2).bind fun h=>
 (ZkJ h.2.1 h.2.2.1 h.2.2.2).bind fun i=>
 (ZkJ i.2.1 i.2.2.1 i.2.2.2).bind fun j=>
 (ZkJ j.2.1 j.2.2.1 j.2.2.2).bind fun k=>
 (ZkJ k.2.1 k.2.2.1 k.2.2.2).bind fun l=>
 some (a.1,b.1,c.1,d.1,e.1,f.1,g.1,h.1,i.1,j.1,k.1,l.1,l.2.1,l.2.2.1,l.2.2.2)):=by kernel_rfl
noncomputable def Zqx:Fn:=⟨22,[2],[],[0],0,[],[],Tryz.f188,[.box [.slice 1,.int .i64,.bool]],[.c (.int .i64)],[(63,F63.S)]⟩
theorem Zlp:Zqx.S.Ok Tryz.prog 188:=Zqx.ok Tryz.func188 (by kernel_rfl) ⟨Zov,trivial⟩
noncomputable def Zmm (a:LL) (c:Int) (d:Bool):Option (Int×LL×Int×Bool):=Zqx.S.g [.l a,.i c,.b d]
theorem Zto (b:LL) (c:Int) (d:Bool):Zmm b c d =
 ((g63 b c d).bind fun a=>
 if (cop .gtr a.1 (iop .sub .i64 (List.length a.2.1:Int) a.2.2.1)) then
 some (0,a.2.1,a.2.2.1,true)
 else
 some (a.1,a.2.1,a.2.2.1,a.2.2.2)):=by kernel_rfl
noncomputable def ZwU:Fn:=⟨42,[4],[],[0],0,[],[],Tryz.f234,[.box [.slice 1,.int .i64,.bool],.c (.int .i64)],[.c (.int .i64)],[(131,ZrH.S)]⟩
theorem ZwO:ZwU.S.Ok Tryz.prog 234:=ZwU.ok Tryz.func234 (by kernel_rfl) ⟨ZsQ,trivial⟩
noncomputable def Zux (a:LL) (c:Int) (d:Bool) (e:Int):Option (Int×LL×Int×Bool):=ZwU.S.g [.l a,.i c,.b d,.i e]
theorem Zoi (a:LL) (b:Int) (c:Bool) (e:Int):Zux a b c e =
 (if c then
 some (0,a,b,c)
 else
 (Zu5 a b).bind fun d=>
 if (cop .neq d.2.2 0) then
 some (0,a,b,true)
 else
 if (cop .gtr d.1 (IntKind.wrap .u64 e)) then
 some (0,a,b,true)
 else
 some ((IntKind.wrap .i64 d.1),a,d.2.1,c)):=by kernel_rfl
noncomputable def Zzi:Fn:=⟨10,[2],[],[0],0,[],[],Tryz.f233,[.box [.slice 1,.int .i64,.bool]],[.agg [.int .i64,.int .i64,.int .i64]],[(234,ZwU.S)]⟩
theorem ZA4:Zzi.S.Ok Tryz.prog 233:=Zzi.ok Tryz.func233 (by kernel_rfl) ⟨ZwO,trivial⟩
noncomputable def Zu7 (a:LL) (c:Int) (d:Bool):Option (Qt36):=Zzi.S.g [.l a,.i c,.b d]
theorem Zn1 (d:LL) (e:Int) (f:Bool):Zu7 d e f =
 ((Zux d e f 32).bind fun a=>
 (Zux a.2.1 a.2.2.1 a.2.2.2 1073741824).bind fun b=>
 (Zux b.2.1 b.2.2.1 b.2.2.2 8).bind fun c=>
 some (a.1,b.1,c.1,c.2.1,c.2.2.1,c.2.2.2)):=by kernel_rfl
noncomputable def ZxB:Fn:=⟨65,[2,3],[(5,[(0,.c (.slice 1)),(2,.box hs27),(4,.box hs27),(43,.c (.int .i64))])],[],0,[],[],Tryz.f235,[.c (.slice 1)],[.agg hs27,.c (.int .i64)],[(166,ZuH.S)]⟩
theorem ZCu:ZxB.S.Ok Tryz.prog 235:=ZxB.ok Tryz.func235 (by kernel_rfl) ⟨ZsS,trivial⟩
noncomputable def ZBL (a:LL):Option (Qt32):=ZxB.S.g [.l a]
noncomputable def Zna (k:Nat) (a:LL) (c d e f g h:Int) (j:Bool) (m n o p q r:Int) (s:Bool) (t:Int):Option (Qt32):=ZxB.lp [1,0,1,7] 0 r0 k [.l a,.i c,.i d,.i e,.i f,.i g,.i h,.b j,.i m,.i n,.i o,.i p,.i q,.i r,.b s,.i t]
theorem Vk (k:Nat) (i:LL) (l m n o p q:Int) (r:Bool) (b c d e f g:Int) (h:Bool) (a:Int):Zna (k+1) i l m n o p q r b c d e f g h a =
 (if (cop .lss a 5) then
 Zm i (iop .add .i64 5 a) [.int .u8] fun (j:Int)=>
 Zz ((0:Int)≤(iop .mul .i64 8 a))<|
 Zna k i l m n o p q r b (iop .or .i64 c (iop .shl .i64 (IntKind.wrap .i64 j) (iop .mul .i64 8 a))) d e f g h (iop .add .i64 a 1)
 else
 (Zx7 b c d e f g h).bind fun j=>
 if (!j) then
 some (0,0,0,0,0,0,false,14)
 else
 some (b,c,d,e,f,g,h,0)):=by kernel_rfl
theorem Zui (a:LL):ZBL a =
 (if (cop .neq (List.length a:Int) 10) then
 some (0,0,0,0,0,0,false,14)
 else
 Zm a 2 [.int .u8] fun (b:Int)=>
 if (cop .gtr b 15) then
 some (0,0,0,0,0,0,false,14)
 else
 Zm a 0 [.int .u8] fun (c:Int)=>
 Zm a 1 [.int .u8] fun (d:Int)=>
 Zm a 2 [.int .u8] fun (e:Int)=>
 Zm a 3 [.int .u8] fun (f:Int)=>
 Zm a 4 [.int .u8] fun (g:Int)=>
 Zm a 2 [.int .u8] fun (h:Int)=>
 Zna ZB a 0 0 0 0 0 0 false (IntKind.wrap .i64 c) 0 (IntKind.wrap .i64 d) (IntKind.wrap .i64 (iop .and .u8 e 7)) (IntKind.wrap .i64 f) (IntKind.wrap .i64 g) (cop .neq (iop .and .u8 h 8) 0) 0):=by kernel_rfl
noncomputable def ZvN:Fn:=⟨52,[2,3],[(4,[(0,.c (.slice 1)),(2,.box hs16),(4,.ptr 10 0),(5,.box hs14),(15,.c (.int .i64)),(16,.c (.int .i64)),(10,.box [.slice 1,.int .i64,.bool])])],[],0,[],[],Tryz.f221,[.c (.slice 1)],[.agg hs16,.c (.int .i64)],[(233,Zzi.S),(234,ZwU.S),(235,ZxB.S),(95,F95.S)]⟩
theorem Zz1:ZvN.S.Ok Tryz.prog 221:=ZvN.ok Tryz.func221 (by kernel_rfl) ⟨ZA4,⟨ZwO,⟨ZCu,⟨ZuO,trivial⟩⟩⟩⟩
noncomputable def ZBA (a:LL):Option (Qt28):=ZvN.S.g [.l a]
noncomputable def Ze0 (k:Nat) (a:LL) (c d e:Int) (f:LL) (g h j m n o:Int) (p:Bool) (q r s:Int) (t:LL) (u v w x y z:Int) (A:Bool) (C D:Int) (E:LL) (G:Int) (H:Bool):Option (Qt28):=ZvN.lp [3] 0 r0 k [.l a,.i c,.i d,.i e,.l f,.i g,.i h,.i j,.i m,.i n,.i o,.b p,.i q,.i r,.i s,.l t,.i u,.i v,.i w,.i x,.i y,.i z,.b A,.i C,.i D,.l E,.i G,.b H]
theorem Zaf (k:Nat) (d:LL) (l m n:Int) (o:LL) (p q r s t u:Int) (v:Bool) (e f g:Int) (b:LL) (w x y z A C:Int) (D:Bool) (h i:Int) (E:LL) (c:Int) (j:Bool):Ze0 (k+1) d l m n o p q r s t u v e f g b w x y z A C D h i E c j =
 (if (cop .lss i h) then
 (Zu7 E c j).bind fun a=>
 Zz (Je b (E0++[[AV.val (.int .i64 a.1),AV.val (.int .i64 a.2.1),AV.val (.int .i64 a.2.2.1)]]) 24)<|
 Ze0 k d l m n o p q r s t u v e f g (b++(E0++[[AV.val (.int .i64 a.1),AV.val (.int .i64 a.2.1),AV.val (.int .i64 a.2.2.1)]])) w x y z A C D h (iop .add .i64 i 1) a.2.2.2.1 a.2.2.2.2.1 a.2.2.2.2.2
 else
 if j then
 some (0,0,0,E0,0,0,0,0,0,0,false,14)
 else
 Zz ((0:Int)≤c)<|
 Zz ((c:Int)≤(List.length d:Int))<|
 (ZBL (List.drop (Int.toNat c) d)).bind fun a=>
 if (cop .neq a.2.2.2.2.2.2.2 0) then
 some (0,0,0,E0,0,0,0,0,0,0,false,14)
 else
 (g95 e f g b a.1 a.2.1 a.2.2.1 a.2.2.2.1 a.2.2.2.2.1 a.2.2.2.2.2.1 a.2.2.2.2.2.2.1).bind fun G=>
 if (!G) then
 some (0,0,0,E0,0,0,0,0,0,0,false,14)
 else
 some (e,f,g,b,a.1,a.2.1,a.2.2.1,a.2.2.2.1,a.2.2.2.2.1,a.2.2.2.2.2.1,a.2.2.2.2.2.2.1,0)):=by kernel_rfl
theorem ZsD (c:LL):ZBA c =
 ((Zu7 c 0 false).bind fun a=>
 (Zux a.2.2.2.1 a.2.2.2.2.1 a.2.2.2.2.2 8).bind fun b=>
 Ze0 ZB c 0 0 0 E0 0 0 0 0 0 0 false a.1 a.2.1 a.2.2.1 E0 0 0 0 0 0 0 false b.1 0 b.2.1 b.2.2.1 b.2.2.2):=by kernel_rfl
noncomputable def ZuL:Fn:=⟨50,[2],[],[0],0,[],[],Tryz.f187,[.box [.slice 1,.int .i64,.bool]],[.agg hs16],[(188,Zqx.S),(221,ZvN.S)]⟩
theorem Zsz:ZuL.S.Ok Tryz.prog 187:=ZuL.ok Tryz.func187 (by kernel_rfl) ⟨Zlp,⟨Zz1,trivial⟩⟩
noncomputable def ZuW (a:LL) (c:Int) (d:Bool):Option (Qt23):=ZuL.S.g [.l a,.i c,.b d]
theorem ZrP (c:LL) (d:Int) (e:Bool):ZuW c d e =
 ((Zmm c d e).bind fun a=>
 if a.2.2.2 then
 some (0,0,0,E0,0,0,0,0,0,0,false,a.2.1,a.2.2.1,a.2.2.2)
 else
 if (cop .eql a.1 0) then
 some (0,0,0,E0,0,0,0,0,0,0,false,a.2.1,a.2.2.1,a.2.2.2)
 else
 Zz ((0:Int)≤a.2.2.1)<|
 Zz ((a.2.2.1:Int)≤(iop .add .i64 a.2.2.1 a.1))<|
 Zz (((iop .add .i64 a.2.2.1 a.1):Int)≤(List.length a.2.1:Int))<|
 (ZBA (List.drop (Int.toNat a.2.2.1) (List.take (Int.toNat (iop .add .i64 a.2.2.1 a.1)) a.2.1))).bind fun b=>
 if (cop .neq b.2.2.2.2.2.2.2.2.2.2.2 0) then
 some (b.1,b.2.1,b.2.2.1,b.2.2.2.1,b.2.2.2.2.1,b.2.2.2.2.2.1,b.2.2.2.2.2.2.1,b.2.2.2.2.2.2.2.1,b.2.2.2.2.2.2.2.2.1,b.2.2.2.2.2.2.2.2.2.1,b.2.2.2.2.2.2.2.2.2.2.1,a.2.1,(iop .add .i64 a.2.2.1 a.1),true)
 else
 some (b.1,b.2.1,b.2.2.1,b.2.2.2.1,b.2.2.2.2.1,b.2.2.2.2.2.1,b.2.2.2.2.2.2.1,b.2.2.2.2.2.2.2.1,b.2.2.2.2.2.2.2.2.1,b.2.2.2.2.2.2.2.2.2.1,b.2.2.2.2.2.2.2.2.2.2.1,a.2.1,(iop .add .i64 a.2.2.1 a.1),a.2.2.2)):=by kernel_rfl
noncomputable def Zvi:Fn:=⟨14,[2],[],[0],0,[],[],Tryz.f132,[.box [.slice 1,.int .i64,.bool]],[.agg hs6],[(133,Zr5.S),(186,ZzE.S),(63,F63.S),(187,ZuL.S)]⟩
theorem ZvV:Zvi.S.Ok Tryz.prog 132:=Zvi.ok Tryz.func132 (by kernel_rfl) ⟨ZpA,⟨ZzM,⟨Zov,⟨Zsz,trivial⟩⟩⟩⟩
noncomputable def ZyI (a:LL) (c:Int) (d:Bool):Option (Qt8):=Zvi.S.g [.l a,.i c,.b d]
theorem Zuw (f:LL) (g:Int) (h:Bool):ZyI f g h =
 ((ZuD f g h).bind fun c=>
 (ZCD c.2.2.2.1 c.2.2.2.2.1 c.2.2.2.2.2).bind fun a=>
 (g63 (d4 (d8 a)).1 (d4 (d8 a)).2.1 (d2 (d4 (d8 a)))).bind fun d=>
 (g63 d.2.1 d.2.2.1 d.2.2.2).bind fun e=>
 (ZuW e.2.1 e.2.2.1 e.2.2.2).bind fun b=>
 some (c.1,c.2.1,c.2.2.1,a.1,a.2.1,a.2.2.1,a.2.2.2.1,a.2.2.2.2.1,a.2.2.2.2.2.1,a.2.2.2.2.2.2.1,a.2.2.2.2.2.2.2.1,a.2.2.2.2.2.2.2.2.1,a.2.2.2.2.2.2.2.2.2.1,a.2.2.2.2.2.2.2.2.2.2.1,a.2.2.2.2.2.2.2.2.2.2.2.1,d.1,e.1,b.1,b.2.1,b.2.2.1,b.2.2.2.1,b.2.2.2.2.1,b.2.2.2.2.2.1,b.2.2.2.2.2.2.1,b.2.2.2.2.2.2.2.1,b.2.2.2.2.2.2.2.2.1,b.2.2.2.2.2.2.2.2.2.1,b.2.2.2.2.2.2.2.2.2.2.1,b.2.2.2.2.2.2.2.2.2.2.2.1,(d4 (d8 b)).1,(d4 (d8 b)).2)):=by kernel_rfl
noncomputable def Zw0:Fn:=⟨13,[2],[],[0],0,[],[],Tryz.f134,[.box [.slice 1,.int .i64,.bool]],[.c (.bool)],[(63,F63.S)]⟩
theorem ZxU:Zw0.S.Ok Tryz.prog 134:=Zw0.ok Tryz.func134 (by kernel_rfl) ⟨Zov,trivial⟩
noncomputable def Zzy (a:LL) (c:Int) (d:Bool):Option (Bool×LL×Int×Bool):=Zw0.S.g [.l a,.i c,.b d]
theorem ZtR (b:LL) (c:Int) (d:Bool):Zzy b c d =
 ((g63 b c d).bind fun a=>
 if (cop .gtr a.1 1) then
 some ((cop .eql a.1 1),a.2.1,a.2.2.1,true)
 else
 some ((cop .eql a.1 1),a.2.1,a.2.2.1,a.2.2.2)):=by kernel_rfl
noncomputable def Zxf:Fn:=⟨15,[2],[(3,[(0,.box [.slice 1,.int .i64,.bool]),(3,.c (.own false 33)),(5,.c (.int .i64)),(6,.c (.int .i64))])],[0],0,[],[],Tryz.f135,[.box [.slice 1,.int .i64,.bool]],[.c (.own false 33)],[(188,Zqx.S),(187,ZuL.S)]⟩
theorem ZBy:Zxf.S.Ok Tryz.prog 135:=Zxf.ok Tryz.func135 (by kernel_rfl) ⟨Zlp,⟨Zsz,trivial⟩⟩
noncomputable def ZBd (a:LL) (c:Int) (d:Bool):Option (LL×LL×Int×Bool):=Zxf.S.g [.l a,.i c,.b d]
noncomputable def Zk6 (k:Nat) (a:LL) (c:Int) (d:Bool) (e:LL) (f g:Int):Option (LL×LL×Int×Bool):=Zxf.lp [2] 0 r0 k [.l a,.i c,.b d,.l e,.i f,.i g]
theorem Zhr (k:Nat) (c:LL) (d:Int) (e:Bool) (b:LL) (f g:Int):Zk6 (k+1) c d e b f g =
 (if (cop .lss g f) then
 (ZuW c d e).bind fun a=>
 Zz (Je b (E0++[[AV.val (.int .i64 a.1),AV.val (.int .i64 a.2.1),AV.val (.int .i64 a.2.2.1),AV.slice false 3 a.2.2.2.1,AV.val (.int .i64 a.2.2.2.2.1),AV.val (.int .i64 a.2.2.2.2.2.1),AV.val (.int .i64 a.2.2.2.2.2.2.1),AV.val (.int .i64 a.2.2.2.2.2.2.2.1),AV.val (.int .i64 a.2.2.2.2.2.2.2.2.1),AV.val (.int .i64 a.2.2.2.2.2.2.2.2.2.1),AV.val (.bool a.2.2.2.2.2.2.2.2.2.2.1)]]) 104)<|
 Zk6 k a.2.2.2.2.2.2.2.2.2.2.2.1 (d4 (d8 a)).1 (d4 (d8 a)).2 (b++(E0++[[AV.val (.int .i64 a.1),AV.val (.int .i64 a.2.1),AV.val (.int .i64 a.2.2.1),AV.slice false 3 a.2.2.2.1,AV.val (.int .i64 a.2.2.2.2.1),AV.val (.int .i64 a.2.2.2.2.2.1),AV.val (.int .i64 a.2.2.2.2.2.2.1),AV.val (.int .i64 a.2.2.2.2.2.2.2.1),AV.val (.int .i64 a.2.2.2.2.2.2.2.2.1),AV.val (.int .i64 a.2.2.2.2.2.2.2.2.2.1),AV.val (.bool a.2.2.2.2.2.2.2.2.2.2.1)]])) f (iop .add .i64 g 1)
 else
 some (b,c,d,e)):=by kernel_rfl
theorem Zub (b:LL) (c:Int) (d:Bool):ZBd b c d =
 ((Zmm b c d).bind fun a=>
 Zk6 ZB a.2.1 a.2.2.1 a.2.2.2 E0 a.1 0):=by kernel_rfl
noncomputable def Zu3:Fn:=⟨15,[2],[(3,[(0,.box [.slice 1,.int .i64,.bool]),(3,.c (.own false 25)),(5,.c (.int .i64)),(6,.c (.int .i64))])],[0],0,[],[],Tryz.f136,[.box [.slice 1,.int .i64,.bool]],[.c (.own false 25)],[(188,Zqx.S),(133,Zr5.S)]⟩
theorem Zwn:Zu3.S.Ok Tryz.prog 136:=Zu3.ok Tryz.func136 (by kernel_rfl) ⟨Zlp,⟨ZpA,trivial⟩⟩
noncomputable def Zyu (a:LL) (c:Int) (d:Bool):Option (LL×LL×Int×Bool):=Zu3.S.g [.l a,.i c,.b d]
noncomputable def Zj7 (k:Nat) (a:LL) (c:Int) (d:Bool) (e:LL) (f g:Int):Option (LL×LL×Int×Bool):=Zu3.lp [2] 0 r0 k [.l a,.i c,.b d,.l e,.i f,.i g]
theorem Zh1 (k:Nat) (c:LL) (d:Int) (e:Bool) (b:LL) (f g:Int):Zj7 (k+1) c d e b f g =
 (if (cop .lss g f) then
 (ZuD c d e).bind fun a=>
 Zz (Je b (E0++[[AV.val (.int .i64 a.1),AV.val (.int .i64 a.2.1),AV.val (.int .i64 a.2.2.1)]]) 24)<|
 Zj7 k a.2.2.2.1 a.2.2.2.2.1 a.2.2.2.2.2 (b++(E0++[[AV.val (.int .i64 a.1),AV.val (.int .i64 a.2.1),AV.val (.int .i64 a.2.2.1)]])) f (iop .add .i64 g 1)
 else
 some (b,c,d,e)):=by kernel_rfl
theorem Zul (b:LL) (c:Int) (d:Bool):Zyu b c d =
 ((Zmm b c d).bind fun a=>
 Zj7 ZB a.2.1 a.2.2.1 a.2.2.2 E0 a.1 0):=by kernel_rfl
noncomputable def ZuK:Fn:=⟨15,[2],[(3,[(0,.box [.slice 1,.int .i64,.bool]),(3,.c (.own false 3)),(5,.c (.int .i64)),(6,.c (.int .i64))])],[0],0,[],[],Tryz.f137,[.box [.slice 1,.int .i64,.bool]],[.c (.own false 3)],[(188,Zqx.S),(63,F63.S)]⟩
theorem Zwj:ZuK.S.Ok Tryz.prog 137:=ZuK.ok Tryz.func137 (by kernel_rfl) ⟨Zlp,⟨Zov,trivial⟩⟩
noncomputable def ZxF (a:LL) (c:Int) (d:Bool):Option (LL×LL×Int×Bool):=ZuK.S.g [.l a,.i c,.b d]
noncomputable def Zk8 (k:Nat) (a:LL) (c:Int) (d:Bool) (e:LL) (f g:Int):Option (LL×LL×Int×Bool):=ZuK.lp [2] 0 r0 k [.l a,.i c,.b d,.l e,.i f,.i g]
theorem ZgX (k:Nat) (c:LL) (d:Int) (e:Bool) (b:LL) (f g:Int):Zk8 (k+1) c d e b f g =
 (if (cop .lss g f) then
 (g63 c d e).bind fun a=>
 Zz (Je b (E0++[[AV.val (.int .i64 a.1)]]) 8)<|
 Zk8 k a.2.1 a.2.2.1 a.2.2.2 (b++(E0++[[AV.val (.int .i64 a.1)]])) f (iop .add .i64 g 1)
 else
 some (b,c,d,e)):=by kernel_rfl
theorem ZsK (b:LL) (c:Int) (d:Bool):ZxF b c d =
 ((Zmm b c d).bind fun a=>
 Zk8 ZB a.2.1 a.2.2.1 a.2.2.2 E0 a.1 0):=by kernel_rfl
noncomputable def Zwh:Fn:=⟨10,[2],[],[0],0,[],[],Tryz.f139,[.box [.slice 1,.int .i64,.bool]],[.agg [.int .i64,.slice 1,.slice 1]],[(63,F63.S),(137,ZuK.S)]⟩
theorem Zyb:Zwh.S.Ok Tryz.prog 139:=Zwh.ok Tryz.func139 (by kernel_rfl) ⟨Zov,⟨Zwj,trivial⟩⟩
noncomputable def Zyo (a:LL) (c:Int) (d:Bool):Option (Qt37):=Zwh.S.g [.l a,.i c,.b d]
theorem ZuC (d:LL) (e:Int) (f:Bool):Zyo d e f =
 ((g63 d e f).bind fun a=>
 (ZxF a.2.1 a.2.2.1 a.2.2.2).bind fun b=>
 (ZxF b.2.1 b.2.2.1 b.2.2.2).bind fun c=>
 some (a.1,b.1,c.1,c.2.1,c.2.2.1,c.2.2.2)):=by kernel_rfl
noncomputable def ZoQ:Fn:=⟨84,[2],[(3,[(0,.box [.slice 1,.int .i64,.bool]),(2,.box hs30),(3,.box hs20),(5,.c (.int .i64)),(6,.c (.int .i64))]),(7,[(0,.box [.slice 1,.int .i64,.bool]),(2,.box hs30),(3,.box hs20),(22,.c (.int .i64)),(23,.c (.int .i64))]),(11,[(0,.box [.slice 1,.int .i64,.bool]),(2,.box hs30),(3,.box hs20),(34,.c (.int .i64)),(35,.c (.int .i64))]),(15,[(0,.box [.slice 1,.int .i64,.bool]),(2,.box hs30),(3,.box hs20),(49,.c (.int .i64)),(50,.c (.int .i64))]),(19,[(0,.box [.slice 1,.int .i64,.bool]),(2,.box hs30),(3,.box hs20),(64,.c (.int .i64)),(65,.c (.int .i64))])],[0],0,[],[],Tryz.f140,[.box [.slice 1,.int .i64,.bool]],[.agg hs30],[(188,Zqx.S),(187,ZuL.S),(63,F63.S),(133,Zr5.S),(132,Zvi.S),(136,Zu3.S)]⟩
theorem Zv0:ZoQ.S.Ok Tryz.prog 140:=ZoQ.ok Tryz.func140 (by kernel_rfl) ⟨Zlp,⟨Zsz,⟨Zov,⟨ZpA,⟨ZvV,⟨Zwn,trivial⟩⟩⟩⟩⟩⟩
noncomputable def Zxx (a:LL) (c:Int) (d:Bool):Option (Qt33):=ZoQ.S.g [.l a,.i c,.b d]
noncomputable def ZhE (k:Nat) (a:LL) (c:Int) (d:Bool) (e f g h j m n o p q r s:LL) (t u:Int):Option (Qt33):=ZoQ.lp [2,1,2,1,2,1,2,1,2] 0 r0 k [.l a,.i c,.b d,.l e,.l f,.l g,.l h,.l j,.l m,.l n,.l o,.l p,.l q,.l r,.l s,.i t,.i u]
theorem ZgC (k:Nat) (e:LL) (f:Int) (g:Bool) (o p q r s t h i j l d u:LL) (m n:Int):ZhE (k+1) e f g o p q r s t h i j l d u m n =
 (if (cop .lss n m) then
 (g63 e f g).bind fun b=>
 (g63 b.2.1 b.2.2.1 b.2.2.2).bind fun c=>
 (ZuW c.2.1 c.2.2.1 c.2.2.2).bind fun a=>
 Zz (Je d (E0++[[AV.val (.int .i64 b.1),AV.val (.int .i64 c.1),AV.val (.int .i64 a.1),AV.val (.int .i64 a.2.1),AV.val (.int .i64 a.2.2.1),AV.slice false 3 a.2.2.2.1,AV.val (.int .i64 a.2.2.2.2.1),AV.val (.int .i64 a.2.2.2.2.2.1),AV.val (.int .i64 a.2.2.2.2.2.2.1),AV.val (.int .i64 a.2.2.2.2.2.2.2.1),AV.val (.int .i64 a.2.2.2.2.2.2.2.2.1),AV.val (.int .i64 a.2.2.2.2.2.2.2.2.2.1),AV.val (.bool a.2.2.2.2.2.2.2.2.2.2.1)]]) 120)<|
 ZhE k a.2.2.2.2.2.2.2.2.2.2.2.1 (d4 (d8 a)).1 (d4 (d8 a)).2 o p q r s t h i j l (d++(E0++[[AV.val (.int .i64 b.1),AV.val (.int .i64 c.1),AV.val (.int .i64 a.1),AV.val (.int .i64 a.2.1),AV.val (.int .i64 a.2.2.1),AV.slice false 3 a.2.2.2.1,AV.val (.int .i64 a.2.2.2.2.1),AV.val (.int .i64 a.2.2.2.2.2.1),AV.val (.int .i64 a.2.2.2.2.2.2.1),AV.val (.int .i64 a.2.2.2.2.2.2.2.1),AV.val (.int .i64 a.2.2.2.2.2.2.2.2.1),AV.val (.int .i64 a.2.2.2.2.2.2.2.2.2.1),AV.val (.bool a.2.2.2.2.2.2.2.2.2.2.1)]])) u m (iop .add .i64 n 1)
 else
 (Zyu e f g).bind fun b=>
 some (h,i,j,l,d,b.1,b.2.1,b.2.2.1,b.2.2.2)):=by kernel_rfl
noncomputable def ZgR (k:Nat) (a:LL) (c:Int) (d:Bool) (e f g h j m n o p q r s:LL) (t u:Int):Option (Qt33):=ZoQ.lp [2,1,2,1,2,1,2] 0 r0 k [.l a,.i c,.b d,.l e,.l f,.l g,.l h,.l j,.l m,.l n,.l o,.l p,.l q,.l r,.l s,.i t,.i u]
theorem Zhv (k:Nat) (d:LL) (e:Int) (f:Bool) (g h i j l m n o p c q r:LL) (s t:Int):ZgR (k+1) d e f g h i j l m n o p c q r s t =
 (if (cop .lss t s) then
 (g63 d e f).bind fun a=>
 (g63 a.2.1 a.2.2.1 a.2.2.2).bind fun b=>
 Zz (Je c (E0++[[AV.val (.int .i64 a.1),AV.val (.int .i64 b.1)]]) 16)<|
 ZgR k b.2.1 b.2.2.1 b.2.2.2 g h i j l m n o p (c++(E0++[[AV.val (.int .i64 a.1),AV.val (.int .i64 b.1)]])) q r s (iop .add .i64 t 1)
 else
 (Zmm d e f).bind fun a=>
 ZhE ZB a.2.1 a.2.2.1 a.2.2.2 g h i j l m n o p c q r a.1 0):=by kernel_rfl
noncomputable def Zg4 (k:Nat) (a:LL) (c:Int) (d:Bool) (e f g h j m n o p q r s:LL) (t u:Int):Option (Qt33):=ZoQ.lp [2,1,2,1,2] 0 r0 k [.l a,.i c,.b d,.l e,.l f,.l g,.l h,.l j,.l m,.l n,.l o,.l p,.l q,.l r,.l s,.i t,.i u]
theorem ZhR (k:Nat) (d:LL) (e:Int) (f:Bool) (g h i j l m n o c p q r:LL) (s t:Int):Zg4 (k+1) d e f g h i j l m n o c p q r s t =
 (if (cop .lss t s) then
 (g63 d e f).bind fun a=>
 (ZuD a.2.1 a.2.2.1 a.2.2.2).bind fun b=>
 Zz (Je c (E0++[[AV.val (.int .i64 a.1),AV.val (.int .i64 b.1),AV.val (.int .i64 b.2.1),AV.val (.int .i64 b.2.2.1)]]) 32)<|
 Zg4 k b.2.2.2.1 b.2.2.2.2.1 b.2.2.2.2.2 g h i j l m n o (c++(E0++[[AV.val (.int .i64 a.1),AV.val (.int .i64 b.1),AV.val (.int .i64 b.2.1),AV.val (.int .i64 b.2.2.1)]])) p q r s (iop .add .i64 t 1)
 else
 (Zmm d e f).bind fun a=>
 ZgR ZB a.2.1 a.2.2.1 a.2.2.2 g h i j l m n o c p q r a.1 0):=by kernel_rfl
noncomputable def ZhZ (k:Nat) (a:LL) (c:Int) (d:Bool) (e f g h j m n o p q r s:LL) (t u:Int):Option (Qt33):=ZoQ.lp [2,1,2] 0 r0 k [.l a,.i c,.b d,.l e,.l f,.l g,.l h,.l j,.l m,.l n,.l o,.l p,.l q,.l r,.l s,.i t,.i u]
theorem ZgG (k:Nat) (c:LL) (d:Int) (e:Bool) (f g h i j l m b n o p q:LL) (r s:Int):ZhZ (k+1) c d e f g h i j l m b n o p q r s =
 (if (cop .lss s r) then
 (ZyI c d e).bind fun a=>
 Zz (Je b (E0++[[I a.1,I a.2.1,I a.2.2.1,I a.2.2.2.1,I a.2.2.2.2.1,I a.2.2.2.2.2.1,I a.2.2.2.2.2.2.1,I a.2.2.2.2.2.2.2.1,I a.2.2.2.2.2.2.2.2.1,I a.2.2.2.2.2.2.2.2.2.1,I a.2.2.2.2.2.2.2.2.2.2.1,I a.2.2.2.2.2.2.2.2.2.2.2.1,AV.val (.int .i64 (d4 (d8 a)).1),AV.val (.int .i64 (d4 (d8 a)).2.1),AV.val (.int .i64 (d2 (d4 (d8 a))).1),AV.val (.int .i64 (d2 (d4 (d8 a))).2.1),AV.val (.int .i64 (d16 a).1),AV.val (.int .i64 (d16 a).2.1),AV.val (.int .i64 (d2 (d16 a)).1),AV.val (.int .i64 (d2 (d16 a)).2.1),AV.slice false 3 (d4 (d16 a)).1,AV.val (.int .i64 (d4 (d16 a)).2.1),AV.val (.int .i64 (d2 (d4 (d16 a))).1),AV.val (.int .i64 (d2 (d4 (d16 a))).2.1),AV.val (.int .i64 (d8 (d16 a)).1),AV.val (.int .i64 (d8 (d16 a)).2.1),AV.val (.int .i64 (d2 (d8 (d16 a))).1),AV.val (.bool (d2 (d8 (d16 a))).2.1)]]) 240)<|
 ZhZ k (d4 (d8 (d16 a))).1 (d4 (d8 (d16 a))).2.1 (d2 (d4 (d8 (d16 a)))) f g h i j l m (b++(E0++[[I a.1,I a.2.1,I a.2.2.1,I a.2.2.2.1,I a.2.2.2.2.1,I a.2.2.2.2.2.1,I a.2.2.2.2.2.2.1,I a.2.2.2.2.2.2.2.1,I a.2.2.2.2.2.2.2.2.1,I a.2.2.2.2.2.2.2.2.2.1,I a.2.2.2.2.2.2.2.2.2.2.1,I a.2.2.2.2.2.2.2.2.2.2.2.1,AV.val (.int .i64 (d4 (d8 a)).1),AV.val (.int .i64 (d4 (d8 a)).2.1),AV.val (.int .i64 (d2 (d4 (d8 a))).1),AV.val (.int .i64 (d2 (d4 (d8 a))).2.1),AV.val (.int .i64 (d16 a).1),AV.val (.int .i64 (d16 a).2.1),AV.val (.int .i64 (d2 (d16 a)).1),AV.val (.int .i64 (d2 (d16 a)).2.1),AV.slice false 3 (d4 (d16 a)).1,AV.val (.int .i64 (d4 (d16 a)).2.1),AV.val (.int .i64 (d2 (d4 (d16 a))).1),AV.val (.int .i64 (d2 (d4 (d16 a))).2.1),AV.val (.int .i64 (d8 (d16 a)).1),AV.val (.int .i64 (d8 (d16 a)).2.1),AV.val (.int .i64 (d2 (d8 (d16 a))).1),AV.val (.bool (d2 (d8 (d16 a))).2.1)]])) n o p q r (iop .add .i64 s 1)
 else
 (Zmm c d e).bind fun a=>
 Zg4 ZB a.2.1 a.2.2.1 a.2.2.2 f g h i j l m b n o p q a.1 0):=by kernel_rfl
noncomputable def ZgP (k:Nat) (a:LL) (c:Int) (d:Bool) (e f g h j m n o p q r s:LL) (t u:Int):Option (Qt33):=ZoQ.lp [2] 0 r0 k [.l a,.i c,.b d,.l e,.l f,.l g,.l h,.l j,.l m,.l n,.l o,.l p,.l q,.l r,.l s,.i t,.i u]
theorem ZhL (k:Nat) (e:LL) (f:Int) (g:Bool) (h i j l m n d o p q r s:LL) (t u:Int):ZgP (k+1) e f g h i j l m n d o p q r s t u =
 (if (cop .lss u t) then
 (ZuW e f g).bind fun a=>
 (g63 a.2.2.2.2.2.2.2.2.2.2.2.1 (d4 (d8 a)).1 (d4 (d8 a)).2).bind fun c=>
 (ZuD c.2.1 c.2.2.1 c.2.2.2).bind fun b=>
 Zz (Je d (E0++[[AV.val (.int .i64 a.1),AV.val (.int .i64 a.2.1),AV.val (.int .i64 a.2.2.1),AV.slice false 3 a.2.2.2.1,AV.val (.int .i64 a.2.2.2.2.1),AV.val (.int .i64 a.2.2.2.2.2.1),AV.val (.int .i64 a.2.2.2.2.2.2.1),AV.val (.int .i64 a.2.2.2.2.2.2.2.1),AV.val (.int .i64 a.2.2.2.2.2.2.2.2.1),AV.val (.int .i64 a.2.2.2.2.2.2.2.2.2.1),AV.val (.bool a.2.2.2.2.2.2.2.2.2.2.1),AV.val (.int .i64 c.1),AV.val (.int .i64 b.1),AV.val (.int .i64 b.2.1),AV.val (.int .i64 b.2.2.1)]]) 136)<|
 ZgP k b.2.2.2.1 b.2.2.2.2.1 b.2.2.2.2.2 h i j l m n (d++(E0++[[AV.val (.int .i64 a.1),AV.val (.int .i64 a.2.1),AV.val (.int .i64 a.2.2.1),AV.slice false 3 a.2.2.2.1,AV.val (.int .i64 a.2.2.2.2.1),AV.val (.int .i64 a.2.2.2.2.2.1),AV.val (.int .i64 a.2.2.2.2.2.2.1),AV.val (.int .i64 a.2.2.2.2.2.2.2.1),AV.val (.int .i64 a.2.2.2.2.2.2.2.2.1),AV.val (.int .i64 a.2.2.2.2.2.2.2.2.2.1),AV.val (.bool a.2.2.2.2.2.2.2.2.2.2.1),AV.val (.int .i64 c.1),AV.val (.int .i64 b.1),AV.val (.int .i64 b.2.1),AV.val (.int .i64 b.2.2.1)]])) o p q r s t (iop .add .i64 u 1)
 else
 (Zmm e f g).bind fun a=>
 ZhZ ZB a.2.1 a.2.2.1 a.2.2.2 h i j l m n d o p q r s a.1 0):=by kernel_rfl
theorem ZtT (b:LL) (c:Int) (d:Bool):Zxx b c d =
 ((Zmm b c d).bind fun a=>
 ZgP ZB a.2.1 a.2.2.1 a.2.2.2 E0 E0 E0 E0 E0 E0 E0 E0 E0 E0 E0 E0 a.1 0):=by kernel_rfl
noncomputable def Zzx:Fn:=⟨16,[2],[],[0],0,[],[],Tryz.f138,[.box [.slice 1,.int .i64,.bool]],[.agg hs7],[(63,F63.S),(139,Zwh.S),(140,ZoQ.S),(134,Zw0.S)]⟩
theorem ZAK:Zzx.S.Ok Tryz.prog 138:=Zzx.ok Tryz.func138 (by kernel_rfl) ⟨Zov,⟨Zyb,⟨Zv0,⟨ZxU,trivial⟩⟩⟩⟩
noncomputable def ZzP (a:LL) (c:Int) (d:Bool):Option (Qt15):=Zzx.S.g [.l a,.i c,.b d]
theorem ZtZ (g:LL) (h:Int) (i:Bool):ZzP g h i =
 ((g63 g h i).bind fun e=>
 (Zyo e.2.1 e.2.2.1 e.2.2.2).bind fun c=>
 (Zxx c.2.2.2.1 c.2.2.2.2.1 c.2.2.2.2.2).bind fun a=>
 (Zzy a.2.2.2.2.2.2.1 a.2.2.2.2.2.2.2.1 a.2.2.2.2.2.2.2.2).bind fun f=>
 (Zyo f.2.1 f.2.2.1 f.2.2.2).bind fun d=>
 (Zxx d.2.2.2.1 d.2.2.2.2.1 d.2.2.2.2.2).bind fun b=>
 some (e.1,c.1,c.2.1,c.2.2.1,a.1,a.2.1,a.2.2.1,a.2.2.2.1,a.2.2.2.2.1,a.2.2.2.2.2.1,f.1,d.1,d.2.1,d.2.2.1,b.1,b.2.1,b.2.2.1,b.2.2.2.1,b.2.2.2.2.1,b.2.2.2.2.2.1,b.2.2.2.2.2.2.1,b.2.2.2.2.2.2.2.1,b.2.2.2.2.2.2.2.2)):=by kernel_rfl
noncomputable def Zvn:Fn:=⟨18,[2],[(3,[(0,.box [.slice 1,.int .i64,.bool]),(3,.c (.own false 81)),(5,.c (.int .i64)),(6,.c (.int .i64))])],[0],0,[],[],Tryz.f141,[.box [.slice 1,.int .i64,.bool]],[.c (.own false 81)],[(188,Zqx.S),(63,F63.S)]⟩
theorem ZBi:Zvn.S.Ok Tryz.prog 141:=Zvn.ok Tryz.func141 (by kernel_rfl) ⟨Zlp,⟨Zov,trivial⟩⟩
noncomputable def ZBa (a:LL) (c:Int) (d:Bool):Option (LL×LL×Int×Bool):=Zvn.S.g [.l a,.i c,.b d]
noncomputable def ZkI (k:Nat) (a:LL) (c:Int) (d:Bool) (e:LL) (f g:Int):Option (LL×LL×Int×Bool):=Zvn.lp [2] 0 r0 k [.l a,.i c,.b d,.l e,.i f,.i g]
theorem ZgQ (k:Nat) (d:LL) (e:Int) (f:Bool) (c:LL) (g h:Int):ZkI (k+1) d e f c g h =
 (if (cop .lss h g) then
 (g63 d e f).bind fun a=>
 (g63 a.2.1 a.2.2.1 a.2.2.2).bind fun b=>
 Zz (Je c (E0++[[AV.val (.int .i64 a.1),AV.val (.int .i64 b.1)]]) 16)<|
 ZkI k b.2.1 b.2.2.1 b.2.2.2 (c++(E0++[[AV.val (.int .i64 a.1),AV.val (.int .i64 b.1)]])) g (iop .add .i64 h 1)
 else
 some (c,d,e,f)):=by kernel_rfl
theorem Zr1 (b:LL) (c:Int) (d:Bool):ZBa b c d =
 ((Zmm b c d).bind fun a=>
 ZkI ZB a.2.1 a.2.2.1 a.2.2.2 E0 a.1 0):=by kernel_rfl
noncomputable def F64:Fn:=⟨112,[],[],[0,1],0,[],[],Tryz.f64,[.box [.slice 1,.int .i64,.bool],.box hs0,.c (.int .i64)],[],[(63,F63.S),(132,Zvi.S),(133,Zr5.S),(134,Zw0.S),(135,Zxf.S),(136,Zu3.S),(137,ZuK.S),(138,Zzx.S),(139,Zwh.S),(140,ZoQ.S),(141,Zvn.S)]⟩
theorem ZEF:F64.S.Ok Tryz.prog 64:=F64.ok Tryz.func64 (by kernel_rfl) ⟨Zov,⟨ZvV,⟨ZpA,⟨ZxU,⟨ZBy,⟨Zwn,⟨Zwj,⟨ZAK,⟨Zyb,⟨Zv0,⟨ZBi,trivial⟩⟩⟩⟩⟩⟩⟩⟩⟩⟩⟩
noncomputable def g64 (a:LL) (c:Int) (d:Bool) (e f h j k m n o p q r:Int) (s:Bool) (t u v w x y z A C D E G H J K L M N O P:Int) (Q:LL) (R T U V W X:Int) (Y:Bool) (Z aa ab ac:LL) (ad ae:Int) (af ag ah ai aj ak al am:LL) (an ao:Int) (ap aq ar aZ au av aw ax:LL) (ay:Bool) (az:Int) (a0 a1 a2 a3 a4 a5 a6 a7:LL) (a8:Int):Option (Qt1):=F64.S.g [.l a,.i c,.b d,.i e,.i f,.i h,.i j,.i k,.i m,.i n,.i o,.i p,.i q,.i r,.b s,.i t,.i u,.i v,.i w,.i x,.i y,.i z,.i A,.i C,.i D,.i E,.i G,.i H,.i J,.i K,.i L,.i M,.i N,.i O,.i P,.l Q,.i R,.i T,.i U,.i V,.i W,.i X,.b Y,.l Z,.l aa,.l ab,.l ac,.i ad,.i ae,.l af,.l ag,.l ah,.l ai,.l aj,.l ak,.l al,.l am,.i an,.i ao,.l ap,.l aq,.l ar,.l aZ,.l au,.l av,.l aw,.l ax,.b ay,.i az,.l a0,.l a1,.l a2,.l a3,.l a4,.l a5,.l a6,.l a7,.i a8]
theorem KM (b:LL) (c:Int) (d:Bool) (e f g h i j k l m n o:Int) (p:Bool) (q r s t u v w x y z A C D E G H J K L M:Int) (N:LL) (O P Q R T U:Int) (V:Bool) (W X Y Z:LL) (aa ab:Int) (ac ad ae af ag ah ai aj:LL) (ak al:Int) (am an ao ap aq ar aZ au:LL) (av:Bool) (aw:Int) (ax ay az a0 a1 a2 a3 a4:LL) (a5:Int):g64 b c d e f g h i j k l m n o p q r s t u v w x y z A C D E G H J K L M N O P Q R T U V W X Y Z aa ab ac ad ae af ag ah ai aj ak al am an ao ap aq ar aZ au av aw ax ay az a0 a1 a2 a3 a4 a5 =
 (if (cop .eql a5 0) then
 (g63 b c d).bind fun a=>
 some (a.2.1,a.2.2.1,a.2.2.2,e,f,g,h,i,a.1,k,l,m,n,o,p,q,r,s,t,u,v,w,x,y,z,A,C,D,E,G,H,J,K,L,M,N,O,P,Q,R,T,U,V,W,X,Y,Z,aa,ab,ac,ad,ae,af,ag,ah,ai,aj,ak,al,am,an,ao,ap,aq,ar,aZ,au,av,aw,ax,ay,az,a0,a1,a2,a3,a4)
 else
 if (cop .eql a5 1) then
 (ZyI b c d).bind fun a=>
 some ((d4 (d8 (d16 a))).1,(d4 (d8 (d16 a))).2.1,(d2 (d4 (d8 (d16 a)))),e,f,g,h,i,j,k,l,m,n,o,p,a.1,a.2.1,a.2.2.1,a.2.2.2.1,a.2.2.2.2.1,a.2.2.2.2.2.1,a.2.2.2.2.2.2.1,a.2.2.2.2.2.2.2.1,a.2.2.2.2.2.2.2.2.1,a.2.2.2.2.2.2.2.2.2.1,a.2.2.2.2.2.2.2.2.2.2.1,a.2.2.2.2.2.2.2.2.2.2.2.1,(d4 (d8 a)).1,(d4 (d8 a)).2.1,(d2 (d4 (d8 a))).1,(d2 (d4 (d8 a))).2.1,(d16 a).1,(d16 a).2.1,(d2 (d16 a)).1,(d2 (d16 a)).2.1,(d4 (d16 a)).1,(d4 (d16 a)).2.1,(d2 (d4 (d16 a))).1,(d2 (d4 (d16 a))).2.1,(d8 (d16 a)).1,(d8 (d16 a)).2.1,(d2 (d8 (d16 a))).1,(d2 (d8 (d16 a))).2.1,W,X,Y,Z,aa,ab,ac,ad,ae,af,ag,ah,ai,aj,ak,al,am,an,ao,ap,aq,ar,aZ,au,av,aw,ax,ay,az,a0,a1,a2,a3,a4)
 else
 if (cop .eql a5 2) then
 (ZuD b c d).bind fun a=>
 some (a.2.2.2.1,a.2.2.2.2.1,a.2.2.2.2.2,e,f,g,h,i,j,k,a.1,a.2.1,a.2.2.1,o,p,q,r,s,t,u,v,w,x,y,z,A,C,D,E,G,H,J,K,L,M,N,O,P,Q,R,T,U,V,W,X,Y,Z,aa,ab,ac,ad,ae,af,ag,ah,ai,aj,ak,al,am,an,ao,ap,aq,ar,aZ,au,av,aw,ax,ay,az,a0,a1,a2,a3,a4)
 else
 if (cop .eql a5 3) then
 (g63 b c d).bind fun a=>
 some (a.2.1,a.2.2.1,a.2.2.2,e,f,g,h,i,j,k,l,m,n,a.1,p,q,r,s,t,u,v,w,x,y,z,A,C,D,E,G,H,J,K,L,M,N,O,P,Q,R,T,U,V,W,X,Y,Z,aa,ab,ac,ad,ae,af,ag,ah,ai,aj,ak,al,am,an,ao,ap,aq,ar,aZ,au,av,aw,ax,ay,az,a0,a1,a2,a3,a4)
 else
 if (cop .eql a5 4) then
 (Zzy b c d).bind fun a=>
 some (a.2.1,a.2.2.1,a.2.2.2,e,f,g,h,i,j,k,l,m,n,o,a.1,q,r,s,t,u,v,w,x,y,z,A,C,D,E,G,H,J,K,L,M,N,O,P,Q,R,T,U,V,W,X,Y,Z,aa,ab,ac,ad,ae,af,ag,ah,ai,aj,ak,al,am,an,ao,ap,aq,ar,aZ,au,av,aw,ax,ay,az,a0,a1,a2,a3,a4)
 else
 if (cop .eql a5 5) then
 (ZBd b c d).bind fun a=>
 some (a.2.1,a.2.2.1,a.2.2.2,e,f,g,h,i,j,k,l,m,n,o,p,q,r,s,t,u,v,w,x,y,z,A,C,D,E,G,H,J,K,L,M,N,O,P,Q,R,T,U,V,W,a.1,Y,Z,aa,ab,ac,ad,ae,af,ag,ah,ai,aj,ak,al,am,an,ao,ap,aq,ar,aZ,au,av,aw,ax,ay,az,a0,a1,a2,a3,a4)
 else
 if (cop .eql a5 6) then
 (g63 b c d).bind fun a=>
 some (a.2.1,a.2.2.1,a.2.2.2,e,f,g,h,i,j,a.1,l,m,n,o,p,q,r,s,t,u,v,w,x,y,z,A,C,D,E,G,H,J,K,L,M,N,O,P,Q,R,T,U,V,W,X,Y,Z,aa,ab,ac,ad,ae,af,ag,ah,ai,aj,ak,al,am,an,ao,ap,aq,ar,aZ,au,av,aw,ax,ay,az,a0,a1,a2,a3,a4)
 else
 if (cop .eql a5 7) then
 (Zyu b c d).bind fun a=>
 some (a.2.1,a.2.2.1,a.2.2.2,e,f,g,h,i,j,k,l,m,n,o,p,q,r,s,t,u,v,w,x,y,z,A,C,D,E,G,H,J,K,L,M,N,O,P,Q,R,T,U,V,a.1,X,Y,Z,aa,ab,ac,ad,ae,af,ag,ah,ai,aj,ak,al,am,an,ao,ap,aq,ar,aZ,au,av,aw,ax,ay,az,a0,a1,a2,a3,a4)
 else
 if (cop .eql a5 8) then
 (g63 b c d).bind fun a=>
 some (a.2.1,a.2.2.1,a.2.2.2,e,f,g,h,a.1,j,k,l,m,n,o,p,q,r,s,t,u,v,w,x,y,z,A,C,D,E,G,H,J,K,L,M,N,O,P,Q,R,T,U,V,W,X,Y,Z,aa,ab,ac,ad,ae,af,ag,ah,ai,aj,ak,al,am,an,ao,ap,aq,ar,aZ,au,av,aw,ax,ay,az,a0,a1,a2,a3,a4)
 else
 if (cop .eql a5 9) then
 (ZxF b c d).bind fun a=>
 some (a.2.1,a.2.2.1,a.2.2.2,e,f,g,h,i,j,k,l,m,n,o,p,q,r,s,t,u,v,w,x,y,z,A,C,D,E,G,H,J,K,L,M,N,O,P,Q,R,T,U,V,W,X,a.1,Z,aa,ab,ac,ad,ae,af,ag,ah,ai,aj,ak,al,am,an,ao,ap,aq,ar,aZ,au,av,aw,ax,ay,az,a0,a1,a2,a3,a4)
 else
 if (cop .eql a5 10) then
 (ZzP b c d).bind fun a=>
 some ((d4 (d16 a)).1,(d4 (d16 a)).2.1,(d2 (d4 (d16 a))),e,f,g,h,i,j,k,l,m,n,o,p,q,r,s,t,u,v,w,x,y,z,A,C,D,E,G,H,J,K,L,M,N,O,P,Q,R,T,U,V,W,X,Y,Z,aa,ab,ac,ad,ae,af,ag,ah,ai,aj,a.1,a.2.1,a.2.2.1,a.2.2.2.1,a.2.2.2.2.1,a.2.2.2.2.2.1,a.2.2.2.2.2.2.1,a.2.2.2.2.2.2.2.1,a.2.2.2.2.2.2.2.2.1,a.2.2.2.2.2.2.2.2.2.1,a.2.2.2.2.2.2.2.2.2.2.1,a.2.2.2.2.2.2.2.2.2.2.2.1,(d4 (d8 a)).1,(d4 (d8 a)).2.1,(d2 (d4 (d8 a))).1,(d2 (d4 (d8 a))).2.1,(d16 a).1,(d16 a).2.1,(d2 (d16 a)).1,(d2 (d16 a)).2.1)
 else
 if (cop .eql a5 11) then
 (g63 b c d).bind fun a=>
 some (a.2.1,a.2.2.1,a.2.2.2,e,f,g,h,i,j,k,l,m,n,o,p,q,r,s,t,u,v,w,x,y,z,A,C,D,E,G,H,J,K,L,M,N,O,P,Q,R,T,U,V,W,X,Y,Z,a.1,ab,ac,ad,ae,af,ag,ah,ai,aj,ak,al,am,an,ao,ap,aq,ar,aZ,au,av,aw,ax,ay,az,a0,a1,a2,a3,a4)
 else
 if (cop .eql a5 12) then
 (Zyo b c d).bind fun a=>
 some (a.2.2.2.1,a.2.2.2.2.1,a.2.2.2.2.2,e,f,g,h,i,j,k,l,m,n,o,p,q,r,s,t,u,v,w,x,y,z,A,C,D,E,G,H,J,K,L,M,N,O,P,Q,R,T,U,V,W,X,Y,Z,aa,a.1,a.2.1,a.2.2.1,ae,af,ag,ah,ai,aj,ak,al,am,an,ao,ap,aq,ar,aZ,au,av,aw,ax,ay,az,a0,a1,a2,a3,a4)
 else
 if (cop .eql a5 13) then
 (Zxx b c d).bind fun a=>
 some (a.2.2.2.2.2.2.1,a.2.2.2.2.2.2.2.1,a.2.2.2.2.2.2.2.2,e,f,g,h,i,j,k,l,m,n,o,p,q,r,s,t,u,v,w,x,y,z,A,C,D,E,G,H,J,K,L,M,N,O,P,Q,R,T,U,V,W,X,Y,Z,aa,ab,ac,ad,a.1,a.2.1,a.2.2.1,a.2.2.2.1,a.2.2.2.2.1,a.2.2.2.2.2.1,ak,al,am,an,ao,ap,aq,ar,aZ,au,av,aw,ax,ay,az,a0,a1,a2,a3,a4)
 else
 if (cop .eql a5 14) then
 (ZBa b c d).bind fun a=>
 some (a.2.1,a.2.2.1,a.2.2.2,e,f,g,h,i,j,k,l,m,n,o,p,q,r,s,t,u,v,w,x,y,z,A,C,D,E,G,H,J,K,L,M,N,O,P,Q,R,T,U,V,W,X,Y,a.1,aa,ab,ac,ad,ae,af,ag,ah,ai,aj,ak,al,am,an,ao,ap,aq,ar,aZ,au,av,aw,ax,ay,az,a0,a1,a2,a3,a4)
 else
 some (b,c,d,e,f,g,h,i,j,k,l,m,n,o,p,q,r,s,t,u,v,w,x,y,z,A,C,D,E,G,H,J,K,L,M,N,O,P,Q,R,T,U,V,W,X,Y,Z,aa,ab,ac,ad,ae,af,ag,ah,ai,aj,ak,al,am,an,ao,ap,aq,ar,aZ,au,av,aw,ax,ay,az,a0,a1,a2,a3,a4)):=by kernel_rfl
noncomputable def F65:Fn:=⟨10,[4],[],[],0,[],[],Tryz.f65,[.c (.slice 1),.c (.slice 1)],[.c (.bool)],[]⟩
theorem ZEL:F65.S.Ok Tryz.prog 65:=F65.ok Tryz.func65 (by kernel_rfl) trivial
noncomputable def g65 (a b:LL):Option (Bool):=F65.S.g [.l a,.l b]
theorem Zye (a b:LL):g65 a b =
 (Zz (Zg5 a)<|
 Zz (Zg5 b)<|
 some ((ByteArray.toList (bytesOf a) == ByteArray.toList (bytesOf b)))):=by kernel_rfl
noncomputable def F17:Fn:=⟨60,[2,3],[(5,[(0,.c (.slice 1)),(2,.box hs0),(4,.ptr 14 0),(5,.box hs0),(30,.c (.slice 1)),(31,.c (.int .i64)),(32,.c (.int .i64)),(14,.box [.slice 1,.int .i64,.bool])])],[],0,[],[],Tryz.f17,[.c (.slice 1)],[.agg hs0,.c (.int .i64)],[(63,F63.S),(32,F32.S),(64,F64.S),(14,F14.S),(65,F65.S)]⟩
theorem ZAn:F17.S.Ok Tryz.prog 17:=F17.ok Tryz.func17 (by kernel_rfl) ⟨Zov,⟨ZB5,⟨ZEF,⟨ZyR,⟨ZEL,trivial⟩⟩⟩⟩⟩
noncomputable def g17 (a:LL):Option (Qt4):=F17.S.g [.l a]
noncomputable def ZhX (k:Nat) (a:LL) (c d e f g h j m n o p:Int) (q:Bool) (r s t u v w x y z A C D E G H J K L M N:Int) (O:LL) (P Q R T U V:Int) (W:Bool) (X Y Z aa:LL) (ab ac:Int) (ad ae af ag ah ai aj ak:LL) (al am:Int) (an ao ap aq ar aZ au av:LL) (aw:Bool) (ax:Int) (ay az a0 a1 a2 a3 a4 a5:LL) (a6 a7 a8 a9 ba bb bc bd be bf bg:Int) (bh:Bool) (bi bj bk bl bm bn bo bp bq br bs bt bu bv bw bx bz b0 b1 b2:Int) (b3:LL) (b4 b5 b6 b7 b8 b9:Int) (ca:Bool) (cb cc cd ce:LL) (cf cg:Int) (ch ci cj ck cl cm cn co:LL) (cp cq:Int) (cr cs ct cu cv cw cx cy:LL) (cz:Bool) (c0:Int) (c1 c2 c3 c4 c5 c6 c7 c8 c9:LL) (da db:Int) (dc:LL) (dd:Int) (de:Bool):Option (Qt4):=F17.lp [6] 0 r0 k [.l a,.i c,.i d,.i e,.i f,.i g,.i h,.i j,.i m,.i n,.i o,.i p,.b q,.i r,.i s,.i t,.i u,.i v,.i w,.i x,.i y,.i z,.i A,.i C,.i D,.i E,.i G,.i H,.i J,.i K,.i L,.i M,.i N,.l O,.i P,.i Q,.i R,.i T,.i U,.i V,.b W,.l X,.l Y,.l Z,.l aa,.i ab,.i ac,.l ad,.l ae,.l af,.l ag,.l ah,.l ai,.l aj,.l ak,.i al,.i am,.l an,.l ao,.l ap,.l aq,.l ar,.l aZ,.l au,.l av,.b aw,.i ax,.l ay,.l az,.l a0,.l a1,.l a2,.l a3,.l a4,.l a5,.i a6,.i a7,.i a8,.i a9,.i ba,.i bb,.i bc,.i bd,.i be,.i bf,.i bg,.b bh,.i bi,.i bj,.i bk,.i bl,.i bm,.i bn,.i bo,.i bp,.i bq,.i br,.i bs,.i bt,.i bu,.i bv,.i bw,.i bx,.i bz,.i b0,.i b1,.i b2,.l b3,.i b4,.i b5,.i b6,.i b7,.i b8,.i b9,.b ca,.l cb,.l cc,.l cd,.l ce,.i cf,.i cg,.l ch,.l ci,.l cj,.l ck,.l cl,.l cm,.l cn,.l co,.i cp,.i cq,.l cr,.l cs,.l ct,.l cu,.l cv,.l cw,.l cx,.l cy,.b cz,.i c0,.l c1,.l c2,.l c3,.l c4,.l c5,.l c6,.l c7,.l c8,.l c9,.i da,.i db,.l dc,.i dd,.b de]
theorem ZkE (k:Nat) (x0:LL) (x1 x2 x3 x4 x5 x6 x7 x8 x9 bi bj:Int) (bk:Bool) (bl bm bn bo bp bq br bs bt bu bv bw bx bz b0 b1 b2 b3 b4 b5:Int) (b6:LL) (b7 b8 b9 ca cb cc:Int) (cd:Bool) (ce cf cg ch:LL) (ci cj:Int) (ck cl cm cn co cp cq cr:LL) (cs ct:Int) (cu cv cw cx cy cz c0 c1:LL) (c2:Bool) (c3:Int) (c4 c5 c6 c7 c8 c9 da db:LL) (b c d e f g h i j l m:Int) (n:Bool) (o p q r s t u v w x y z A C D E G H J K:Int) (L:LL) (M N O P Q R:Int) (T:Bool) (U V W X:LL) (Y Z:Int) (aa ab ac ad ae af ag ah:LL) (ai aj:Int) (ak al am an ao ap aq ar:LL) (aZ:Bool) (au:Int) (av aw ax ay az a0 a1 a2 a6:LL) (a7 a3:Int) (dc:LL) (dd:Int) (a8:Bool):ZhX (k+1) x0 x1 x2 x3 x4 x5 x6 x7 x8 x9 bi bj bk bl bm bn bo bp bq br bs bt bu bv bw bx bz b0 b1 b2 b3 b4 b5 b6 b7 b8 b9 ca cb cc cd ce cf cg ch ci cj ck cl cm cn co cp cq cr cs ct cu cv cw cx cy cz c0 c1 c2 c3 c4 c5 c6 c7 c8 c9 da db b c d e f g h i j l m n o p q r s t u v w x y z A C D E G H J K L M N O P Q R T U V W X Y Z aa ab ac ad ae af ag ah ai aj ak al am an ao ap aq ar aZ au av aw ax ay az a0 a1 a2 a6 a7 a3 dc dd a8 =
 (if (cop .lss a3 a7) then
 Zm a6 a3 [.int .i64] fun (a4:Int)=>
 (g64 dc dd a8 b c d e f g h i j l m n o p q r s t u v w x y z A C D E G H J K L M N O P Q R T U V W X Y Z aa ab ac ad ae af ag ah ai aj ak al am an ao ap aq ar aZ au av aw ax ay az a0 a1 a2 a4).bind fun a=>
 ZhX k x0 x1 x2 x3 x4 x5 x6 x7 x8 x9 bi bj bk bl bm bn bo bp bq br bs bt bu bv bw bx bz b0 b1 b2 b3 b4 b5 b6 b7 b8 b9 ca cb cc cd ce cf cg ch ci cj ck cl cm cn co cp cq cr cs ct cu cv cw cx cy cz c0 c1 c2 c3 c4 c5 c6 c7 c8 c9 da db a.2.2.2.1 a.2.2.2.2.1 a.2.2.2.2.2.1 a.2.2.2.2.2.2.1 a.2.2.2.2.2.2.2.1 a.2.2.2.2.2.2.2.2.1 a.2.2.2.2.2.2.2.2.2.1 a.2.2.2.2.2.2.2.2.2.2.1 a.2.2.2.2.2.2.2.2.2.2.2.1 (d4 (d8 a)).1 (d4 (d8 a)).2.1 (d2 (d4 (d8 a))).1 (d2 (d4 (d8 a))).2.1 (d16 a).1 (d16 a).2.1 (d2 (d16 a)).1 (d2 (d16 a)).2.1 (d4 (d16 a)).1 (d4 (d16 a)).2.1 (d2 (d4 (d16 a))).1 (d2 (d4 (d16 a))).2.1 (d8 (d16 a)).1 (d8 (d16 a)).2.1 (d2 (d8 (d16 a))).1 (d2 (d8 (d16 a))).2.1 (d4 (d8 (d16 a))).1 (d4 (d8 (d16 a))).2.1 (d2 (d4 (d8 (d16 a)))).1 (d2 (d4 (d8 (d16 a)))).2.1 (d16 (d16 a)).1 (d16 (d16 a)).2.1 (d2 (d16 (d16 a))).1 (d2 (d16 (d16 a))).2.1 (d4 (d16 (d16 a))).1 (d4 (d16 (d16 a))).2.1 (d2 (d4 (d16 (d16 a)))).1 (d2 (d4 (d16 (d16 a)))).2.1 (d8 (d16 (d16 a))).1 (d8 (d16 (d16 a))).2.1 (d2 (d8 (d16 (d16 a)))).1 (d2 (d8 (d16 (d16 a)))).2.1 (d4 (d8 (d16 (d16 a)))).1 (d4 (d8 (d16 (d16 a)))).2.1 (d2 (d4 (d8 (d16 (d16 a))))).1 (d2 (d4 (d8 (d16 (d16 a))))).2.1 (d16 (d16 (d16 a))).1 (d16 (d16 (d16 a))).2.1 (d2 (d16 (d16 (d16 a)))).1 (d2 (d16 (d16 (d16 a)))).2.1 (d4 (d16 (d16 (d16 a)))).1 (d4 (d16 (d16 (d16 a)))).2.1 (d2 (d4 (d16 (d16 (d16 a))))).1 (d2 (d4 (d16 (d16 (d16 a))))).2.1 (d8 (d16 (d16 (d16 a)))).1 (d8 (d16 (d16 (d16 a)))).2.1 (d2 (d8 (d16 (d16 (d16 a))))).1 (d2 (d8 (d16 (d16 (d16 a))))).2.1 (d4 (d8 (d16 (d16 (d16 a))))).1 (d4 (d8 (d16 (d16 (d16 a))))).2.1 (d2 (d4 (d8 (d16 (d16 (d16 a)))))).1 (d2 (d4 (d8 (d16 (d16 (d16 a)))))).2.1 (d16 (d16 (d16 (d16 a)))).1 (d16 (d16 (d16 (d16 a)))).2.1 (d2 (d16 (d16 (d16 (d16 a))))).1 (d2 (d16 (d16 (d16 (d16 a))))).2.1 (d4 (d16 (d16 (d16 (d16 a))))).1 (d4 (d16 (d16 (d16 (d16 a))))).2.1 (d2 (d4 (d16 (d16 (d16 (d16 a)))))).1 (d2 (d4 (d16 (d16 (d16 (d16 a)))))).2.1 (d8 (d16 (d16 (d16 (d16 a))))).1 (d8 (d16 (d16 (d16 (d16 a))))).2.1 (d2 (d8 (d16 (d16 (d16 (d16 a)))))).1 (d2 (d8 (d16 (d16 (d16 (d16 a)))))).2.1 (d4 (d8 (d16 (d16 (d16 (d16 a)))))) a6 a7 (iop .add .i64 a3 1) a.1 a.2.1 a.2.2.1
 else
 if a8 then
 some (0,0,0,0,0,0,0,0,0,0,0,false,0,0,0,0,0,0,0,0,0,0,0,0,0,0,0,0,0,0,0,0,E0,0,0,0,0,0,0,false,E0,E0,E0,E0,0,0,E0,E0,E0,E0,E0,E0,E0,E0,0,0,E0,E0,E0,E0,E0,E0,E0,E0,false,0,E0,E0,E0,E0,E0,E0,E0,E0,14)
 else
 (g14 b c d e f g h i j l m n o p q r s t u v w x y z A C D E G H J K L M N O P Q R T U V W X Y Z aa ab ac ad ae af ag ah ai aj ak al am an ao ap aq ar aZ au av aw ax ay az a0 a1 a2).bind fun a4=>
 if (cop .neq a4.2 0) then
 some (0,0,0,0,0,0,0,0,0,0,0,false,0,0,0,0,0,0,0,0,0,0,0,0,0,0,0,0,0,0,0,0,E0,0,0,0,0,0,0,false,E0,E0,E0,E0,0,0,E0,E0,E0,E0,E0,E0,E0,E0,0,0,E0,E0,E0,E0,E0,E0,E0,E0,false,0,E0,E0,E0,E0,E0,E0,E0,E0,14)
 else
 (g65 a4.1 x0).bind fun de=>
 if (!de) then
 some (0,0,0,0,0,0,0,0,0,0,0,false,0,0,0,0,0,0,0,0,0,0,0,0,0,0,0,0,0,0,0,0,E0,0,0,0,0,0,0,false,E0,E0,E0,E0,0,0,E0,E0,E0,E0,E0,E0,E0,E0,0,0,E0,E0,E0,E0,E0,E0,E0,E0,false,0,E0,E0,E0,E0,E0,E0,E0,E0,14)
 else
 some (b,c,d,e,f,g,h,i,j,l,m,n,o,p,q,r,s,t,u,v,w,x,y,z,A,C,D,E,G,H,J,K,L,M,N,O,P,Q,R,T,U,V,W,X,Y,Z,aa,ab,ac,ad,ae,af,ag,ah,ai,aj,ak,al,am,an,ao,ap,aq,ar,aZ,au,av,aw,ax,ay,az,a0,a1,a2,0)):=by kernel_rfl
theorem Zx8 (e:LL):g17 e =
 ((g63 e 0 false).bind fun a=>
 (g63 a.2.1 a.2.2.1 a.2.2.2).bind fun b=>
 (g63 b.2.1 b.2.2.1 b.2.2.2).bind fun c=>
 (g63 c.2.1 c.2.2.1 c.2.2.2).bind fun d=>
 (g32 a.1).bind fun f=>
 ZhX ZB e 0 0 0 0 0 0 0 0 0 0 0 false 0 0 0 0 0 0 0 0 0 0 0 0 0 0 0 0 0 0 0 0 E0 0 0 0 0 0 0 false E0 E0 E0 E0 0 0 E0 E0 E0 E0 E0 E0 E0 E0 0 0 E0 E0 E0 E0 E0 E0 E0 E0 false 0 E0 E0 E0 E0 E0 E0 E0 E0 a.1 b.1 c.1 d.1 0 0 0 0 0 0 0 false 0 0 0 0 0 0 0 0 0 0 0 0 0 0 0 0 0 0 0 0 E0 0 0 0 0 0 0 false E0 E0 E0 E0 0 0 E0 E0 E0 E0 E0 E0 E0 E0 0 0 E0 E0 E0 E0 E0 E0 E0 E0 false 0 E0 E0 E0 E0 E0 E0 E0 E0 f.1 (List.length f.1:Int) 0 d.2.1 d.2.2.1 d.2.2.2):=by kernel_rfl
end Go.Proofs.YtjldbnbdcmfbmaaGreat
