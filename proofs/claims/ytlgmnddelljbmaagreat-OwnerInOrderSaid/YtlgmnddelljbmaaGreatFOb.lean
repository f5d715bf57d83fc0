/- Functions of the program, as what they compute. -/
import Derived.Test.YtlgmnddelljbmaaGreatFOa
namespace Go.Proofs.YtlgmnddelljbmaaGreat
open Go Go.AM
set_option linter.unusedVariables false
set_option maxRecDepth 100000
noncomputable def F84:Fn:=⟨22,[4,5],[(2,[(3,.box [.int .i64,.int .i64,.int .i64]),(8,.c (.slice 13)),(9,.c (.int .i64)),(10,.c (.int .i64))])],[],0,[],[],Tryz.f84,[.c (.slice 13),.agg [.int .i64,.int .i64,.int .i64]],[.c (.int .i64),.c (.bool)],[]⟩
theorem Zmi:F84.S.Ok Tryz.prog 84:=F84.ok Tryz.func84 (by kernel_rfl) trivial
noncomputable def g84 (a:LL) (b c d:Int):Option (Int×Bool):=F84.S.g [.l a,.i b,.i c,.i d]
noncomputable def ZhX (k:Nat) (a b c:Int) (d:LL) (e f:Int):Option (Int×Bool):=F84.lp [0] 0 r0 k [.i a,.i b,.i c,.l d,.i e,.i f]
theorem ZhY (k:Nat) (b c d:Int) (e:LL) (f a:Int):ZhX (k+1) b c d e f a =
 (if (cop .lss a f) then
 Z8 e a hs19 fun (g:Qt21)=>
 if ((cop .eql g.2.2.1 b)&&((cop .eql g.2.2.2.1 c)&&((cop .eql g.2.2.2.2.1 d)&&true))) then
 some (a,true)
 else
 ZhX k b c d e f (iop .add .i64 a 1)
 else
 some (0,false)):=by kernel_rfl
theorem Zkt (a:LL) (b c d:Int):g84 a b c d =
 (ZhX KX b c d a (List.length a:Int) 0):=by kernel_rfl
noncomputable def F85:Fn:=⟨29,[6,7],[(2,[(1,.c (.int .i64)),(2,.c (.int .i64)),(10,.c (.slice 13)),(11,.c (.int .i64)),(12,.c (.int .i64))])],[],0,[],[],Tryz.f85,[.c (.slice 13),.c (.int .i64),.c (.int .i64)],[.c (.int .i64),.c (.bool)],[]⟩
theorem ZoX:F85.S.Ok Tryz.prog 85:=F85.ok Tryz.func85 (by kernel_rfl) trivial
noncomputable def g85 (a:LL) (b c:Int):Option (Int×Bool):=F85.S.g [.l a,.i b,.i c]
noncomputable def ZeD (k:Nat) (a b:Int) (c:LL) (d e:Int):Option (Int×Bool):=F85.lp [0] 0 r0 k [.i a,.i b,.l c,.i d,.i e]
theorem Zhl (k:Nat) (b c:Int) (d:LL) (e a:Int):ZeD (k+1) b c d e a =
 (if (cop .lss a e) then
 Z8 d a hs19 fun (f:Qt21)=>
 if (cop .eql f.1 b) then
 if (cop .eql f.2.1 c) then
 some (a,true)
 else
 ZeD k b c d e (iop .add .i64 a 1)
 else
 ZeD k b c d e (iop .add .i64 a 1)
 else
 some (0,false)):=by kernel_rfl
theorem ZkN (a:LL) (b c:Int):g85 a b c =
 (ZeD KX b c a (List.length a:Int) 0):=by kernel_rfl
noncomputable def Zlj:Fn:=⟨6,[2],[],[],0,[],[],Tryz.f221,[.c (.int .i64)],[.c (.bool)],[]⟩
theorem ZkZ:Zlj.S.Ok Tryz.prog 221:=Zlj.ok Tryz.func221 (by kernel_rfl) trivial
noncomputable def ZmY (a:Int):Option (Bool):=Zlj.S.g [.i a]
theorem ZfM (a:Int):ZmY a =
 (some ((cop .neq a a))):=by kernel_rfl
noncomputable def ZlX:Fn:=⟨20,[4],[],[],0,[],[],Tryz.f192,[.c (.int .i64),.c (.int .i64)],[.c (.int .i64)],[(221,Zlj.S)]⟩
theorem Znv:ZlX.S.Ok Tryz.prog 192:=ZlX.ok Tryz.func192 (by kernel_rfl) ⟨ZkZ,trivial⟩
noncomputable def Zlk (a b:Int):Option (Int):=ZlX.S.g [.i a,.i b]
theorem ZjM (a b:Int):Zlk a b =
 ((ZmY a).bind fun d=>
 (ZmY b).bind fun c=>
 if d then
 if c then
 some (0)
 else
 some ((-1))
 else
 if c then
 some (1)
 else
 if (cop .lss a b) then
 some ((-1))
 else
 if (cop .gtr a b) then
 some (1)
 else
 some (0)):=by kernel_rfl
noncomputable def Zlg:Fn:=⟨18,[2],[(3,[(3,.c (.int .i64)),(6,.c (.slice 1)),(7,.c (.int .i64)),(8,.c (.int .i64))])],[],0,[],[],Tryz.f191,[.c (.slice 1)],[.c (.int .i64)],[]⟩
theorem Zoo:Zlg.S.Ok Tryz.prog 191:=Zlg.ok Tryz.func191 (by kernel_rfl) trivial
noncomputable def ZmE (a:LL):Option (Int):=Zlg.S.g [.l a]
noncomputable def Zeh (k:Nat) (a:Int) (b:LL) (c d:Int):Option (Int):=Zlg.lp [0] 0 r0 k [.i a,.l b,.i c,.i d]
theorem Zg8 (k:Nat) (a:Int) (c:LL) (d b:Int):Zeh (k+1) a c d b =
 (if (cop .lss b d) then
 Z8 c b [.int .i64] fun (e:Int)=>
 if (cop .neq e a) then
 some (e)
 else
 Zeh k a c d (iop .add .i64 b 1)
 else
 some (a)):=by kernel_rfl
theorem ZjH (a:LL):ZmE a =
 (Zeh KX 0 a (List.length a:Int) 0):=by kernel_rfl
noncomputable def Zmq:Fn:=⟨22,[4],[],[],0,[],[],Tryz.f146,[.agg [.int .i64,.int .i64,.int .i64],.agg [.int .i64,.int .i64,.int .i64]],[.c (.int .i64)],[(192,ZlX.S),(191,Zlg.S)]⟩
theorem Zor:Zmq.S.Ok Tryz.prog 146:=Zmq.ok Tryz.func146 (by kernel_rfl) ⟨Znv,⟨Zoo,trivial⟩⟩
noncomputable def Zm7 (a b c d e f:Int):Option (Int):=Zmq.S.g [.i a,.i b,.i c,.i d,.i e,.i f]
theorem Zj7 (a b c d e f:Int):Zm7 a b c d e f =
 ((Zlk a d).bind fun g=>
 (Zlk b e).bind fun h=>
 (Zlk c f).bind fun i=>
 (ZmE (((E0++[[AV.val (.int .i64 g)]])++[[AV.val (.int .i64 h)]])++[[AV.val (.int .i64 i)]])).bind fun j=>
 some (j)):=by kernel_rfl
noncomputable def F86:Fn:=⟨9,[4],[],[],0,[],[],Tryz.f86,[.agg [.int .i64,.int .i64,.int .i64],.agg [.int .i64,.int .i64,.int .i64]],[.c (.bool)],[(146,Zmq.S)]⟩
theorem Znz:F86.S.Ok Tryz.prog 86:=F86.ok Tryz.func86 (by kernel_rfl) ⟨Zor,trivial⟩
noncomputable def g86 (a b c d e f:Int):Option (Bool):=F86.S.g [.i a,.i b,.i c,.i d,.i e,.i f]
theorem Zkl (a b c d e f:Int):g86 a b c d e f =
 ((Zm7 a b c d e f).bind fun g=>
 some ((cop .lss g 0))):=by kernel_rfl
noncomputable def Zms:Fn:=⟨8,[2],[],[],0,[2,5,7],[],Tryz.f108,[.c (.slice 13)],[.c (.own true 40)],[]⟩
theorem ZnT:Zms.S.Ok Tryz.prog 108:=Zms.ok Tryz.func108 (by kernel_rfl) trivial
noncomputable def Zoi (a:LL):Option (LL):=Zms.S.g [.l a]
theorem Zi8 (a:LL):Zoi a =
 (Zfe a fun b=>
 if b then
 some (E0)
 else
 J6 (K7 E0 a 120)<|
 some ((E0++a))):=by kernel_rfl
noncomputable def Zk2:Fn:=⟨8,[2],[],[],0,[],[],Tryz.f147,[.c (.slice 3)],[.c (.own false 33)],[]⟩
theorem Zlm:Zk2.S.Ok Tryz.prog 147:=Zk2.ok Tryz.func147 (by kernel_rfl) trivial
noncomputable def Zoe (a:LL):Option (LL):=Zk2.S.g [.l a]
theorem Zka (a:LL):Zoe a =
 (Zfe a fun b=>
 if b then
 some (E0)
 else
 J6 (K7 E0 a 24)<|
 some ((E0++a))):=by kernel_rfl
noncomputable def F87:Fn:=⟨8,[2],[],[],0,[],[],Tryz.f87,[.agg hs20],[.agg hs20],[(147,Zk2.S)]⟩
theorem Zlt:F87.S.Ok Tryz.prog 87:=F87.ok Tryz.func87 (by kernel_rfl) ⟨Zlm,trivial⟩
noncomputable def g87 (a c d:Int) (e:LL) (f h j k m n:Int) (o:Bool):Option (Qt23):=F87.S.g [.i a,.i c,.i d,.l e,.i f,.i h,.i j,.i k,.i m,.i n,.b o]
theorem Zkx (a b c:Int) (d:LL) (e f g h i j:Int) (k:Bool):g87 a b c d e f g h i j k =
 ((Zoe d).bind fun l=>
 some (a,b,c,l,e,f,g,h,i,j,k)):=by kernel_rfl
noncomputable def F51:Fn:=⟨24,[2],[(3,[(3,.c (.own true 40)),(8,.c (.int .i64)),(9,.c (.int .i64))])],[],0,[2],[],Tryz.f51,[.c (.slice 13)],[.c (.own true 40)],[(108,Zms.S),(87,F87.S)]⟩
theorem Znb:F51.S.Ok Tryz.prog 51:=F51.ok Tryz.func51 (by kernel_rfl) ⟨ZnT,⟨Zlt,trivial⟩⟩
noncomputable def g51 (a:LL):Option (LL):=F51.S.g [.l a]
noncomputable def ZhK (k:Nat) (a:LL) (b c:Int):Option (LL):=F51.lp [2] 0 r0 k [.l a,.i b,.i c]
theorem Zhy (k:Nat) (d:LL) (e a:Int):ZhK (k+1) d e a =
 (if (cop .lss a e) then
 J6 ((0:Int)≤a)<|
 J6 ((a:Int) < (List.length d:Int))<|
 Z8 d a hs19 fun (b:Qt21)=>
 (g87 b.2.2.1 b.2.2.2.1 b.2.2.2.2.1 b.2.2.2.2.2.1 b.2.2.2.2.2.2.1 b.2.2.2.2.2.2.2.1 b.2.2.2.2.2.2.2.2.1 b.2.2.2.2.2.2.2.2.2.1 b.2.2.2.2.2.2.2.2.2.2.1 b.2.2.2.2.2.2.2.2.2.2.2.1 (d4 (d8 b))).bind fun c=>
 J6 ((0:Int)≤a)<|
 J6 ((a:Int) < (List.length d:Int))<|
 J6 ((0:Int)≤a)<|
 J6 ((a:Int) < (List.length d:Int))<|
 ZhK k (JE d (Int.toNat a) 2 [AV.val (.int .i64 c.1),AV.val (.int .i64 c.2.1),AV.val (.int .i64 c.2.2.1),AV.slice false 3 c.2.2.2.1,AV.val (.int .i64 c.2.2.2.2.1),AV.val (.int .i64 c.2.2.2.2.2.1),AV.val (.int .i64 c.2.2.2.2.2.2.1),AV.val (.int .i64 c.2.2.2.2.2.2.2.1),AV.val (.int .i64 c.2.2.2.2.2.2.2.2.1),AV.val (.int .i64 c.2.2.2.2.2.2.2.2.2.1),AV.val (.bool c.2.2.2.2.2.2.2.2.2.2)]) e (iop .add .i64 a 1)
 else
 some (d)):=by kernel_rfl
theorem Zkq (a:LL):g51 a =
 ((Zoi a).bind fun b=>
 ZhK KX b (List.length b:Int) 0):=by kernel_rfl
noncomputable def F88.S:Fun:=ZoO false 40 120
theorem Zo9:F88.S.Ok Tryz.prog 88:=insF_ok (T:=23) (B:=4) (I:=3) (e:=40) (fO:=148) (fR:=149) mixed (by kernel_rfl) Tryz.func88 (by kernel_rfl) ⟨by kernel_rfl,by kernel_rfl,by kernel_rfl⟩ Tryz.func148 (by kernel_rfl) (by kernel_rfl) (by kernel_rfl) (by kernel_rfl)
noncomputable def g88 (a:LL) (b:Int) (c:LL):Option LL:=F88.S.g [.l a,.i b,.l c]
theorem ZlG (a:LL) (b:Int) (c:LL):g88 a b c=Zn7 120 a b c:=rfl
noncomputable def F38:Fn:=⟨64,[4,5],[(7,[(0,.c (.slice 13)),(3,.box hs19),(10,.c (.int .i64)),(37,.c (.slice 13)),(38,.c (.int .i64)),(39,.c (.int .i64))])],[],0,[],[],Tryz.f38,[.c (.slice 13),.agg hs19],[.c (.slice 13),.c (.bool)],[(84,F84.S),(85,F85.S),(86,F86.S),(51,F51.S),(87,F87.S),(88,F88.S)]⟩
theorem ZoG:F38.S.Ok Tryz.prog 38:=F38.ok Tryz.func38 (by kernel_rfl) ⟨Zmi,⟨ZoX,⟨Znz,⟨Znb,⟨Zlt,⟨Zo9,trivial⟩⟩⟩⟩⟩⟩
noncomputable def g38 (a:LL) (c d e f h:Int) (j:LL) (k m n o p q:Int) (r:Bool):Option (LL×Bool):=F38.S.g [.l a,.i c,.i d,.i e,.i f,.i h,.l j,.i k,.i m,.i n,.i o,.i p,.i q,.b r]
noncomputable def Zhm (k:Nat) (a:LL) (c d e f g:Int) (h:LL) (j m n o p q:Int) (r:Bool) (s:Int) (t:LL) (u v:Int):Option (LL×Bool):=F38.lp [2,1,1,0] 0 r0 k [.l a,.i c,.i d,.i e,.i f,.i g,.l h,.i j,.i m,.i n,.i o,.i p,.i q,.b r,.i s,.l t,.i u,.i v]
theorem Zhr (k:Nat) (h:LL) (i j c d e:Int) (l:LL) (m n o p q r:Int) (s:Bool) (t:Int) (u:LL) (v f:Int):Zhm (k+1) h i j c d e l m n o p q r s t u v f =
 (if (cop .lss f v) then
 Z8 u f hs19 fun (g:Qt21)=>
 (g86 c d e g.2.2.1 g.2.2.2.1 g.2.2.2.2.1).bind fun w=>
 if w then
 (g51 h).bind fun x=>
 (g87 c d e l m n o p q r s).bind fun a=>
 (g88 x f (E0++[[AV.val (.int .i64 i),AV.val (.int .i64 j),AV.val (.int .i64 a.1),AV.val (.int .i64 a.2.1),AV.val (.int .i64 a.2.2.1),AV.slice false 3 a.2.2.2.1,AV.val (.int .i64 a.2.2.2.2.1),AV.val (.int .i64 a.2.2.2.2.2.1),AV.val (.int .i64 a.2.2.2.2.2.2.1),AV.val (.int .i64 a.2.2.2.2.2.2.2.1),AV.val (.int .i64 a.2.2.2.2.2.2.2.2.1),AV.val (.int .i64 a.2.2.2.2.2.2.2.2.2.1),AV.val (.bool a.2.2.2.2.2.2.2.2.2.2)]])).bind fun y=>
 some (y,true)
 else
 Zhm k h i j c d e l m n o p q r s t u v (iop .add .i64 f 1)
 else
 (g51 h).bind fun g=>
 (g87 c d e l m n o p q r s).bind fun b=>
 (g88 g t (E0++[[AV.val (.int .i64 i),AV.val (.int .i64 j),AV.val (.int .i64 b.1),AV.val (.int .i64 b.2.1),AV.val (.int .i64 b.2.2.1),AV.slice false 3 b.2.2.2.1,AV.val (.int .i64 b.2.2.2.2.1),AV.val (.int .i64 b.2.2.2.2.2.1),AV.val (.int .i64 b.2.2.2.2.2.2.1),AV.val (.int .i64 b.2.2.2.2.2.2.2.1),AV.val (.int .i64 b.2.2.2.2.2.2.2.2.1),AV.val (.int .i64 b.2.2.2.2.2.2.2.2.2.1),AV.val (.bool b.2.2.2.2.2.2.2.2.2.2)]])).bind fun z=>
 some (z,true)):=by kernel_rfl
theorem Zkm (a:LL) (b c d e f:Int) (g:LL) (h i j k l m:Int) (n:Bool):g38 a b c d e f g h i j k l m n =
 ((g84 a d e f).bind fun o=>
 (g85 a b c).bind fun p=>
 if o.2 then
 some (E0,false)
 else
 if p.2 then
 some (E0,false)
 else
 Zhm KX a b c d e f g h i j k l m n (List.length a:Int) a (List.length a:Int) 0):=by kernel_rfl
noncomputable def Zk9:Fn:=⟨12,[2],[],[],0,[],[],Tryz.f225,[.agg [.int .i64,.int .i64]],[.c (.int .i64)],[(195,ZiK.S)]⟩
theorem Zlh:Zk9.S.Ok Tryz.prog 225:=Zk9.ok Tryz.func225 (by kernel_rfl) ⟨Zgf,trivial⟩
noncomputable def ZjJ (a b:Int):Option (Int):=Zk9.S.g [.i a,.i b]
theorem ZjE (b a:Int):ZjJ b a =
 ((Ziz b a).bind fun c=>
 if (!c) then
 some (0)
 else
 J6 ((0:Int)≤a)<|
 some ((iop .add .i64 b (iop .shl .i64 1 a)))):=by kernel_rfl
noncomputable def Zkr:Fn:=⟨25,[4],[],[],0,[],[],Tryz.f200,[.agg [.int .i64,.int .i64],.agg [.int .i64,.int .i64]],[.c (.bool)],[(195,ZiK.S),(225,Zk9.S)]⟩
theorem ZlH:Zkr.S.Ok Tryz.prog 200:=Zkr.ok Tryz.func200 (by kernel_rfl) ⟨Zgf,⟨Zlh,trivial⟩⟩
noncomputable def Zkw (a b c d:Int):Option (Bool):=Zkr.S.g [.i a,.i b,.i c,.i d]
theorem ZiY (a c b d:Int):Zkw a c b d =
 ((Ziz a c).bind fun e=>
 if e then
 (Ziz b d).bind fun f=>
 if f then
 if (cop .leq a b) then
 (ZjJ b d).bind fun g=>
 (ZjJ a c).bind fun h=>
 some ((cop .leq g h))
 else
 some (false)
 else
 some (false)
 else
 some (false)):=by kernel_rfl
noncomputable def ZlS:Fn:=⟨25,[4],[],[],0,[],[],Tryz.f226,[.agg [.int .i64,.int .i64],.agg [.int .i64,.int .i64]],[.c (.bool)],[(195,ZiK.S),(225,Zk9.S)]⟩
theorem Zn9:ZlS.S.Ok Tryz.prog 226:=ZlS.ok Tryz.func226 (by kernel_rfl) ⟨Zgf,⟨Zlh,trivial⟩⟩
noncomputable def Zmt (a b c d:Int):Option (Bool):=ZlS.S.g [.i a,.i b,.i c,.i d]
theorem Zj2 (a c b d:Int):Zmt a c b d =
 ((Ziz a c).bind fun e=>
 if e then
 (Ziz b d).bind fun f=>
 if f then
 (ZjJ b d).bind fun g=>
 if (cop .lss a g) then
 (ZjJ a c).bind fun h=>
 some ((cop .lss b h))
 else
 some (false)
 else
 some (false)
 else
 some (false)):=by kernel_rfl
noncomputable def ZfA:Fn:=⟨61,[6],[(3,[(0,.c (.slice 13)),(2,.c (.slice 7)),(7,.c (.int .i64)),(8,.c (.bool)),(20,.c (.slice 13)),(21,.c (.int .i64)),(22,.c (.int .i64))]),(8,[(0,.c (.slice 13)),(2,.c (.slice 7)),(7,.c (.int .i64)),(8,.c (.bool)),(11,.box [.int .i64,.int .i64]),(20,.c (.slice 13)),(21,.c (.int .i64)),(22,.c (.int .i64)),(49,.c (.slice 7)),(50,.c (.int .i64)),(51,.c (.int .i64))])],[],0,[],[],Tryz.f201,[.c (.slice 13),.agg [.int .i64,.int .i64,.int .i64],.c (.slice 7)],[.c (.bool)],[(84,F84.S),(196,Zly.S),(200,Zkr.S),(226,ZlS.S)]⟩
theorem Zkv:ZfA.S.Ok Tryz.prog 201:=ZfA.ok Tryz.func201 (by kernel_rfl) ⟨Zmi,⟨ZkG,⟨ZlH,⟨Zn9,trivial⟩⟩⟩⟩
noncomputable def Zmp (a:LL) (b c d:Int) (e:LL):Option (Bool):=ZfA.S.g [.l a,.i b,.i c,.i d,.l e]
noncomputable def Zaq (rec0:List V→Option (Bool)) (k:Nat) (a c:LL) (d:Int) (e:Bool) (f g:Int) (h:LL) (j m:Int) (n:LL) (o p:Int):Option (Bool):=ZfA.lp [3,3,0,3,1,0] 1 (ZiX r0 0 rec0) k [.l a,.l c,.i d,.b e,.i f,.i g,.l h,.i j,.i m,.l n,.i o,.i p]
theorem ZgM (rec0:List V→Option (Bool)) (k:Nat) (d e:LL) (f:Int) (g:Bool) (h j:Int) (m:LL) (n o:Int) (p:LL) (q c:Int):Zaq rec0 (k+1) d e f g h j m n o p q c =
 (if (cop .lss c q) then
 Z8 p c hs22 fun (a:Int×Int×Int×Int×Int×Int×Bool)=>
 (Zks a.1 a.2.1 a.2.2.1 a.2.2.2.1 a.2.2.2.2.1 a.2.2.2.2.2.1 a.2.2.2.2.2.2).bind fun r=>
 (Zmt h j r.1 r.2).bind fun s=>
 if s then
 some (true)
 else
 Zaq rec0 k d e f g h j m n o p q (iop .add .i64 c 1)
 else
 rec0 [.l d,.l e,.i f,.b g,.l m,.i n,.i (iop .add .i64 o 1)]):=by kernel_rfl
noncomputable def Zd9 (k:Nat) (a c:LL) (d:Int) (e:Bool) (f:LL) (g h:Int):Option (Bool):=ZfA.lp [2] 0 r0 k [.l a,.l c,.i d,.b e,.l f,.i g,.i h]
theorem ZgB (k:Nat) (f a:LL) (g:Int) (h:Bool) (i:LL) (j d:Int):Zd9 (k+1) f a g h i j d =
 (if (cop .lss d j) then
 Z8 i d hs19 fun (b:Qt21)=>
 (Zks b.2.2.2.2.2.2.1 b.2.2.2.2.2.2.2.1 b.2.2.2.2.2.2.2.2.1 b.2.2.2.2.2.2.2.2.2.1 b.2.2.2.2.2.2.2.2.2.2.1 b.2.2.2.2.2.2.2.2.2.2.2.1 (d4 (d8 b))).bind fun c=>
 if h then
 if (cop .eql b.2.2.2.2.2.2.1 1) then
 Z8 f g hs19 fun (e:Qt21)=>
 (Zks e.2.2.2.2.2.2.1 e.2.2.2.2.2.2.2.1 e.2.2.2.2.2.2.2.2.1 e.2.2.2.2.2.2.2.2.2.1 e.2.2.2.2.2.2.2.2.2.2.1 e.2.2.2.2.2.2.2.2.2.2.2.1 (d4 (d8 e))).bind fun l=>
 (Zkw c.1 c.2 l.1 l.2).bind fun m=>
 if m then
 Zd9 k f a g h i j (iop .add .i64 d 1)
 else
 Zaq (ZfA.lp [2] 0 r0 k) KX f a g h c.1 c.2 i j d a (List.length a:Int) 0
 else
 Zaq (ZfA.lp [2] 0 r0 k) KX f a g h c.1 c.2 i j d a (List.length a:Int) 0
 else
 Zaq (ZfA.lp [2] 0 r0 k) KX f a g h c.1 c.2 i j d a (List.length a:Int) 0
 else
 some (false)):=by kernel_rfl
theorem Zjt (a:LL) (b c d:Int) (e:LL):Zmp a b c d e =
 ((g84 a b c d).bind fun f=>
 Zd9 KX a e f.1 f.2 a (List.length a:Int) 0):=by kernel_rfl
noncomputable def Zki:Fn:=⟨34,[4],[(3,[(0,.box hs4),(5,.c (.slice 13)),(14,.c (.slice 13)),(15,.c (.int .i64)),(16,.c (.int .i64))])],[0],0,[],[],Tryz.f199,[.box hs4,.c (.slice 13)],[.c (.bool)],[(38,F38.S)]⟩
theorem ZlD:Zki.S.Ok Tryz.prog 199:=Zki.ok Tryz.func199 (by kernel_rfl) ⟨ZoG,trivial⟩
noncomputable def ZlT (a c d:Int) (e:Bool) (f h:LL) (j k m n o p q r s t u v w x y z A C D E:Int) (G:LL) (H J K L M N:Int) (O:Bool) (P:Int) (Q R T U:LL):Option (Qt12):=Zki.S.g [.i a,.i c,.i d,.b e,.l f,.l h,.i j,.i k,.i m,.i n,.i o,.i p,.i q,.i r,.i s,.i t,.i u,.i v,.i w,.i x,.i y,.i z,.i A,.i C,.i D,.i E,.l G,.i H,.i J,.i K,.i L,.i M,.i N,.b O,.i P,.l Q,.l R,.l T,.l U]
noncomputable def Zel (k:Nat) (a c d:Int) (e:Bool) (f g:LL) (h j m n o p q r s t u v w x y z A C D E:Int) (G:LL) (H J K L M N:Int) (O:Bool) (P:Int) (Q R T U V:LL) (W X:Int):Option (Qt12):=Zki.lp [0] 0 r0 k [.i a,.i c,.i d,.b e,.l f,.l g,.i h,.i j,.i m,.i n,.i o,.i p,.i q,.i r,.i s,.i t,.i u,.i v,.i w,.i x,.i y,.i z,.i A,.i C,.i D,.i E,.l G,.i H,.i J,.i K,.i L,.i M,.i N,.b O,.i P,.l Q,.l R,.l T,.l U,.l V,.i W,.i X]
theorem Zgq (k:Nat) (b c d:Int) (e:Bool) (R f:LL) (g h i j l m n o p q r s t u v w x y z A:Int) (C:LL) (D E G H J K:Int) (L:Bool) (M:Int) (N O P T U:LL) (V Q:Int):Zel (k+1) b c d e R f g h i j l m n o p q r s t u v w x y z A C D E G H J K L M N O P T U V Q =
 (if (cop .lss Q V) then
 Z8 U Q hs19 fun (a:Qt21)=>
 (g38 T a.1 a.2.1 a.2.2.1 a.2.2.2.1 a.2.2.2.2.1 a.2.2.2.2.2.1 a.2.2.2.2.2.2.1 a.2.2.2.2.2.2.2.1 a.2.2.2.2.2.2.2.2.1 a.2.2.2.2.2.2.2.2.2.1 a.2.2.2.2.2.2.2.2.2.2.1 a.2.2.2.2.2.2.2.2.2.2.2.1 (d4 (d8 a))).bind fun W=>
 if (!W.2) then
 some (false,b,c,d,e,R,f,g,h,i,j,l,m,n,o,p,q,r,s,t,u,v,w,x,y,z,A,C,D,E,G,H,J,K,L,M,N,O,P)
 else
 Zel k b c d e R f g h i j l m n o p q r s t u v w x y z A C D E G H J K L M N O P W.1 U V (iop .add .i64 Q 1)
 else
 some (true,b,c,d,e,T,f,g,h,i,j,l,m,n,o,p,q,r,s,t,u,v,w,x,y,z,A,C,D,E,G,H,J,K,L,M,N,O,P)):=by kernel_rfl
theorem ZjC (c d e:Int) (f:Bool) (a g:LL) (h i j k l m n o p q r s t u v w x y z A:Int) (C:LL) (D E G H J K:Int) (L:Bool) (M:Int) (N O P b:LL):ZlT c d e f a g h i j k l m n o p q r s t u v w x y z A C D E G H J K L M N O P b =
 (Zel KX c d e f a g h i j k l m n o p q r s t u v w x y z A C D E G H J K L M N O P a b (List.length b:Int) 0):=by kernel_rfl
noncomputable def F102.S:Fun:=ZlV false 40
theorem ZmS:F102.S.Ok Tryz.prog 102:=delF_ok (T:=23) (B:=4) (I:=3) (U:=0) (e:=40) (bytes:=120) mixed (by kernel_rfl) Tryz.func102 (by kernel_rfl) ⟨by kernel_rfl,by kernel_rfl,by kernel_rfl⟩
noncomputable def F46:Fn:=⟨22,[4,5],[],[],0,[],[],Tryz.f46,[.c (.slice 13),.agg [.int .i64,.int .i64,.int .i64]],[.c (.slice 13),.c (.bool)],[(84,F84.S),(51,F51.S),(102,F102.S)]⟩
theorem ZoA:F46.S.Ok Tryz.prog 46:=F46.ok Tryz.func46 (by kernel_rfl) ⟨Zmi,⟨Znb,⟨ZmS,trivial⟩⟩⟩
noncomputable def g46 (a:LL) (b c d:Int):Option (LL×Bool):=F46.S.g [.l a,.i b,.i c,.i d]
end Go.Proofs.YtlgmnddelljbmaaGreat
