import Derived.Test.YtpjnmgjphfnmmaaFWb
open Option renaming some→Xa
open Bool renaming false→Xe
open List renaming replicate→Xg,length→Xn
set_option linter.unusedVariables false
set_option linter.unusedSimpArgs false
set_option linter.defProp false
namespace Go.Proofs.Ytpjnmgjphfnmmaa
open Go Go.AM
set_option maxRecDepth 100000
noncomputable def F52:Fn:=⟨45,[6],[],[],1,[],[],Xa 45,[22],[],Try.f52,([.c (.cel),.c (.int .i64),.c (.cel)]++Xg 42 .dead++[.sto]),[.c (.own Xe 35)],[]⟩
theorem Zxt:F52.S.Ok Try.prog 52:=F52.ok Try.func52 (by kernel_rfl) trivial
noncomputable def g52 (a:LL) (b:Int) (c:LL) (d:LL):Option (LL×LL):=F52.S.g [.l a,.i b,.l c,.l d]
theorem Zvu (e:LL) (b:Int) (d:LL) (a:LL):g52 e b d a =
 (Zf ((Zc .pnn e 0 E0 [])≠[])<|
 Zf ((Zc .pnn e 0 E0 [])≠[])<|
 Zk (Zc (.get 1) a 0 (Zc (.padd 0) e 0 E0 []) []) 0 [.cel] fun (c:LL)=>
 Zf ((Zc .mchk a 0 c [])≠[])<|
 Zf ((Zc .pisr (Zc .mget a b c []) 0 E0 [])≠[])<|
 if (cop .eql (Xn (Zc .pnn (Zc .mget a b c []) 0 E0 []):Int) 0) then
 Xa (E0,a)
 else
 Zf ((Zc .pnn (Zc .mget a b c []) 0 E0 [])≠[])<|
 Zf ((Zc .pnn (Zc .mget a b c []) 0 E0 [])≠[])<|
 Zk (Zc (.get 1) a 0 (Zc (.padd 6) (Zc .mget a b c []) 0 E0 []) []) 0 [.bool] fun (h:Bool)=>
 if (!h) then
 Xa (E0,a)
 else
 Zf ((Zc .pnn (Zc .mget a b c []) 0 E0 [])≠[])<|
 Zf ((Zc .pnn (Zc .mget a b c []) 0 E0 [])≠[])<|
 Zf ((Zc (.get 1) a 0 (Zc (.padd 6) (Zc .mget a b c []) 0 E0 []) [])≠[])<|
 Zf ((Zc .pnn e 0 E0 [])≠[])<|
 Zf ((Zc .pnn e 0 E0 [])≠[])<|
 Zk (Zc (.get 1) (Zc .set a 0 (Zc (.padd 6) (Zc .mget a b c []) 0 E0 []) [AV.val (.bool Xe)]) 0 (Zc (.padd 0) e 0 E0 []) []) 0 [.cel] fun (f:LL)=>
 Zf ((Zc .pnn d 0 E0 [])≠[])<|
 Zf ((Zc .pnn d 0 E0 [])≠[])<|
 Zk (Zc (.get 1) (Zc .set a 0 (Zc (.padd 6) (Zc .mget a b c []) 0 E0 []) [AV.val (.bool Xe)]) 0 (Zc (.padd 0) d 0 E0 []) []) 0 [.int .i64] fun (g:Int)=>
 Zf ((Zc .mchk (Zc .set a 0 (Zc (.padd 6) (Zc .mget a b c []) 0 E0 []) [AV.val (.bool Xe)]) 0 f [])≠[])<|
 Zf ((Zc .pnn d 0 E0 [])≠[])<|
 Zf ((Zc .pnn d 0 E0 [])≠[])<|
 Zk (Zc (.get 1) (Zc .mdel (Zc .set a 0 (Zc (.padd 6) (Zc .mget a b c []) 0 E0 []) [AV.val (.bool Xe)]) g f []) 0 (Zc (.padd 0) d 0 E0 []) []) 0 [.int .i64] fun (i:Int)=>
 Zf ((Zc .pnn d 0 E0 [])≠[])<|
 Zf ((Zc .pnn d 0 E0 [])≠[])<|
 Zk (Zc (.get 1) (Zc .mdel (Zc .set a 0 (Zc (.padd 6) (Zc .mget a b c []) 0 E0 []) [AV.val (.bool Xe)]) g f []) 0 (Zc (.padd 5) d 0 E0 []) []) 0 [.int .i64] fun (j:Int)=>
 Xa ((E0++[[AV.val (.int .i64 b),AV.val (.int .i64 i),AV.val (.int .i64 j)]]),(Zc .mdel (Zc .set a 0 (Zc (.padd 6) (Zc .mget a b c []) 0 E0 []) [AV.val (.bool Xe)]) g f []))):=by kernel_rfl
noncomputable def F30:Fn:=⟨73,[6],[(6,[(0,.c (.cel)),(1,.c (.cel)),(7,.c (.own Xe 35)),(30,.c (.slice 1)),(31,.c (.int .i64)),(32,.c (.int .i64)),(73,.sto)])],[],1,[],[],Xa 73,[22],[],Try.f30,([.c (.cel),.c (.cel),.c (.int .i64)]++Xg 70 .dead++[.sto]),[.c (.own Xe 35)],[(29,F29.S),(52,F52.S)]⟩
theorem ZwZ:F30.S.Ok Try.prog 30:=F30.ok Try.func30 (by kernel_rfl) ⟨Zuj,⟨Zxt,trivial⟩⟩
noncomputable def g30 (a:LL) (b:LL) (c:Int) (d:LL):Option (LL×LL):=F30.S.g [.l a,.l b,.i c,.l d]
noncomputable def Zgg (k:Nat) (a:LL) (b:LL) (c:LL) (d:LL) (e:Int) (f:Int) (g:LL):Option (LL×LL):=F30.lp [15,1,2] 0 r0 k [.l a,.l b,.l c,.l d,.i e,.i f,.l g]
theorem Zln (k:Nat) (e:LL) (d:LL) (f:LL) (h:LL) (i:Int) (g:Int) (a:LL):Zgg (k+1) e d f h i g a =
 (if (cop .lss g i) then
 Zk h g [.int .i64] fun (c:Int)=>
 Zf ((Zc .pnn e 0 E0 [])≠[])<|
 Zf ((Zc .pnn e 0 E0 [])≠[])<|
 Zk (Zc (.get 1) a 0 (Zc (.padd 0) e 0 E0 []) []) 0 [.cel] fun (b:LL)=>
 Zf ((Zc .mchk a 0 b [])≠[])<|
 Zf ((Zc .pnn (Zc .mget a c b []) 0 E0 [])≠[])<|
 Zf ((Zc .pnn (Zc .mget a c b []) 0 E0 [])≠[])<|
 Zk (Zc (.get 1) a 0 (Zc (.padd 1) (Zc .mget a c b []) 0 E0 []) []) 0 [.int .i64] fun (l:Int)=>
 Zf ((Zc .pnn d 0 E0 [])≠[])<|
 Zf ((Zc .pnn d 0 E0 [])≠[])<|
 Zk (Zc (.get 1) a 0 (Zc (.padd 0) d 0 E0 []) []) 0 [.int .i64] fun (m:Int)=>
 if (cop .neq l m) then
 Zgg k e d f h i (iop .add .i64 g 1) a
 else
 Zf ((Zc .pnn (Zc .mget a c b []) 0 E0 [])≠[])<|
 Zf ((Zc .pnn (Zc .mget a c b []) 0 E0 [])≠[])<|
 Zf ((Zc (.get 1) a 0 (Zc (.padd 1) (Zc .mget a c b []) 0 E0 []) [])≠[])<|
 Zf ((Zc .pnn (Zc .mget a c b []) 0 E0 [])≠[])<|
 Zf ((Zc .pnn (Zc .mget a c b []) 0 E0 [])≠[])<|
 Zk (Zc (.get 1) (Zc .set a 0 (Zc (.padd 1) (Zc .mget a c b []) 0 E0 []) [AV.val (.int .i64 1)]) 0 (Zc (.padd 4) (Zc .mget a c b []) 0 E0 []) []) 0 [.bool] fun (n:Bool)=>
 if n then
 (g52 e 1 (Zc .mget a c b []) (Zc .set a 0 (Zc (.padd 1) (Zc .mget a c b []) 0 E0 []) [AV.val (.int .i64 1)])).bind fun j=>
 Zf (Jp f j.1 24)<|
 Zgg k e d (f++j.1) h i (iop .add .i64 g 1) j.2
 else
 Zgg k e d f h i (iop .add .i64 g 1) (Zc .set a 0 (Zc (.padd 1) (Zc .mget a c b []) 0 E0 []) [AV.val (.int .i64 1)])
 else
 Zf ((Zc .pnn d 0 E0 [])≠[])<|
 Zf ((Zc .pnn d 0 E0 [])≠[])<|
 Zk (Zc (.get 1) a 0 (Zc (.padd 1) d 0 E0 []) []) 0 [.int .i64] fun (c:Int)=>
 (g52 e c d a).bind fun b=>
 Zf (Jp f b.1 24)<|
 Xa ((f++b.1),b.2)):=by kernel_rfl
theorem Zv4 (d:LL) (a:LL) (c:Int) (b:LL):g30 d a c b =
 (Zf ((Zc .pnn a 0 E0 [])≠[])<|
 Zf ((Zc .pnn a 0 E0 [])≠[])<|
 Zf ((Zc (.get 1) b 0 (Zc (.padd 4) a 0 E0 []) [])≠[])<|
 Zf ((Zc .pnn a 0 E0 [])≠[])<|
 Zf ((Zc .pnn a 0 E0 [])≠[])<|
 Zf ((Zc (.get 1) (Zc .set b 0 (Zc (.padd 4) a 0 E0 []) [AV.val (.bool true)]) 0 (Zc (.padd 5) a 0 E0 []) [])≠[])<|
 Zf ((Zc .pnn a 0 E0 [])≠[])<|
 Zf ((Zc .pnn a 0 E0 [])≠[])<|
 Zf ((Zc (.get 1) (Zc .set (Zc .set b 0 (Zc (.padd 4) a 0 E0 []) [AV.val (.bool true)]) 0 (Zc (.padd 5) a 0 E0 []) [AV.val (.int .i64 c)]) 0 (Zc (.padd 3) a 0 E0 []) [])≠[])<|
 Zf ((Zc .pnn a 0 E0 [])≠[])<|
 Zf ((Zc .pnn a 0 E0 [])≠[])<|
 Zf ((Zc (.get 1) (Zc .set (Zc .set (Zc .set b 0 (Zc (.padd 4) a 0 E0 []) [AV.val (.bool true)]) 0 (Zc (.padd 5) a 0 E0 []) [AV.val (.int .i64 c)]) 0 (Zc (.padd 3) a 0 E0 []) [Zd (Zc (.pnil 1) E0 0 E0 [])]) 0 (Zc (.padd 6) a 0 E0 []) [])≠[])<|
 Zf ((Zc .pnn a 0 E0 [])≠[])<|
 Zf ((Zc .pnn a 0 E0 [])≠[])<|
 Zk (Zc (.get 1) (Zc .set (Zc .set (Zc .set (Zc .set b 0 (Zc (.padd 4) a 0 E0 []) [AV.val (.bool true)]) 0 (Zc (.padd 5) a 0 E0 []) [AV.val (.int .i64 c)]) 0 (Zc (.padd 3) a 0 E0 []) [Zd (Zc (.pnil 1) E0 0 E0 [])]) 0 (Zc (.padd 6) a 0 E0 []) [AV.val (.bool Xe)]) 0 (Zc (.padd 0) a 0 E0 []) []) 0 [.int .i64] fun (f:Int)=>
 if (cop .eql f 1) then
 Xa (E0,(Zc .set (Zc .set (Zc .set (Zc .set b 0 (Zc (.padd 4) a 0 E0 []) [AV.val (.bool true)]) 0 (Zc (.padd 5) a 0 E0 []) [AV.val (.int .i64 c)]) 0 (Zc (.padd 3) a 0 E0 []) [Zd (Zc (.pnil 1) E0 0 E0 [])]) 0 (Zc (.padd 6) a 0 E0 []) [AV.val (.bool Xe)]))
 else
 (g29 d (Zc .set (Zc .set (Zc .set (Zc .set b 0 (Zc (.padd 4) a 0 E0 []) [AV.val (.bool true)]) 0 (Zc (.padd 5) a 0 E0 []) [AV.val (.int .i64 c)]) 0 (Zc (.padd 3) a 0 E0 []) [Zd (Zc (.pnil 1) E0 0 E0 [])]) 0 (Zc (.padd 6) a 0 E0 []) [AV.val (.bool Xe)])).bind fun e=>
 Zgg Jl d a E0 e.1 (Xn e.1:Int) 0 e.2):=by kernel_rfl
noncomputable def F13:Fn:=⟨26,[6,7],[],[],1,[],[],Xa 26,[22],[],Try.f13,([.c (.cel),.c (.int .i64),.c (.int .i64)]++Xg 23 .dead++[.sto]),[.c (.own Xe 35),.c (.int .i64)],[(27,F27.S),(30,F30.S)]⟩
theorem ZwX:F13.S.Ok Try.prog 13:=F13.ok Try.func13 (by kernel_rfl) ⟨Zua,⟨ZwZ,trivial⟩⟩
noncomputable def g13 (a:LL) (b:Int) (c:Int) (d:LL):Option (LL×Int×LL):=F13.S.g [.l a,.i b,.i c,.l d]
theorem Zuz (c:LL) (d:Int) (b:Int) (e:LL):g13 c d b e =
 ((g27 c d e).bind fun a=>
 Zf ((Zc .pisr a.1 0 E0 [])≠[])<|
 if (cop .eql (Xn (Zc .pnn a.1 0 E0 []):Int) 0) then
 Xa (E0,17,a.2)
 else
 if (cop .lss b 0) then
 Xa (E0,1,a.2)
 else
 if (cop .gtr b 255) then
 Xa (E0,1,a.2)
 else
 (g30 c a.1 b a.2).bind fun f=>
 Xa (f.1,0,f.2)):=by kernel_rfl
noncomputable def F45:Fn:=⟨30,[6],[(3,[(0,.c (.cel)),(2,.c (.int .i64)),(7,.c (.own Xe 35)),(11,.c (.slice 1)),(12,.c (.int .i64)),(13,.c (.int .i64)),(30,.sto)])],[],1,[],[],Xa 30,[22],[],Try.f45,([.c (.cel),.c (.slice 1),.c (.int .i64)]++Xg 27 .dead++[.sto]),[.c (.own Xe 35)],[(27,F27.S),(30,F30.S)]⟩
theorem ZwV:F45.S.Ok Try.prog 45:=F45.ok Try.func45 (by kernel_rfl) ⟨Zua,⟨ZwZ,trivial⟩⟩
noncomputable def g45 (a:LL) (b:LL) (c:Int) (d:LL):Option (LL×LL):=F45.S.g [.l a,.l b,.i c,.l d]
noncomputable def Zj5 (k:Nat) (a:LL) (b:Int) (c:LL) (d:LL) (e:Int) (f:Int) (g:LL):Option (LL×LL):=F45.lp [0] 0 r0 k [.l a,.i b,.l c,.l d,.i e,.i f,.l g]
theorem ZkB (k:Nat) (a:LL) (e:Int) (b:LL) (f:LL) (g:Int) (c:Int) (h:LL):Zj5 (k+1) a e b f g c h =
 (if (cop .lss c g) then
 Zk f c [.int .i64] fun (j:Int)=>
 (g27 a j h).bind fun d=>
 Zf ((Zc .pisr d.1 0 E0 [])≠[])<|
 if (cop .neq (Xn (Zc .pnn d.1 0 E0 []):Int) 0) then
 (g30 a d.1 e d.2).bind fun i=>
 Zf (Jp b i.1 24)<|
 Zj5 k a e (b++i.1) f g (iop .add .i64 c 1) i.2
 else
 Zj5 k a e b f g (iop .add .i64 c 1) d.2
 else
 Xa (b,h)):=by kernel_rfl
theorem Zus (b:LL) (a:LL) (d:Int) (e:LL):g45 b a d e =
 (Zj5 Jl b d E0 a (Xn a:Int) 0 e):=by kernel_rfl
abbrev R42:=List V→Option (ShsT (ZcJ [] ([.c (.int .i64),.c (.cel),.c (.cel),.c (.cel)]++Xg 29 .dead++[.sto])))
noncomputable def F42 (h:R42):Fn:=⟨33,[],[(1,[(0,.c (.int .i64)),(1,.c (.cel)),(2,.c (.cel)),(3,.c (.cel)),(8,.c (.slice 1)),(9,.c (.int .i64)),(10,.c (.int .i64)),(33,.sto)])],[],1,[],[],Xa 33,[22],[(29,(42,3))],Try.f42,([.c (.int .i64),.c (.cel),.c (.cel),.c (.cel)]++Xg 29 .dead++[.sto]),[],[(42,⟨([.c (.int .i64),.c (.cel),.c (.cel),.c (.cel)]++Xg 29 .dead++[.sto]),[],h⟩),(29,F29.S)]⟩
noncomputable def G42:Nat→R42
 | 0 => fun _ => none
 | k + 1 => (F42 (G42 k)).S.g
theorem Zwo (h:R42) (hh:(Fun.mk ([.c (.int .i64),.c (.cel),.c (.cel),.c (.cel)]++Xg 29 .dead++[.sto]) [] (h)).Ok Try.prog 42):(F42 h).S.Ok Try.prog 42:=(F42 h).ok Try.func42 (by kernel_rfl) ⟨hh,⟨Zuj,trivial⟩⟩
theorem ZwG (k:Nat):(F42 (G42 k)).S=(Fun.mk ([.c (.int .i64),.c (.cel),.c (.cel),.c (.cel)]++Xg 29 .dead++[.sto]) [] (G42 (k+1))):=by kernel_rfl
theorem Zwq (k:Nat):(Fun.mk ([.c (.int .i64),.c (.cel),.c (.cel),.c (.cel)]++Xg 29 .dead++[.sto]) [] (G42 k)).Ok Try.prog 42:=by
 induction k with
 | zero => exact ZrM
 | succ k ih => exact Eq.mp (congrArg (fun S => Fun.Ok Try.prog 42 S) (ZwG k)) (Zwo (G42 k) ih)
noncomputable def F42.S:Fun:=⟨([.c (.int .i64),.c (.cel),.c (.cel),.c (.cel)]++Xg 29 .dead++[.sto]),[],G42 128⟩
theorem Zx2:F42.S.Ok Try.prog 42:=Zwq 128
noncomputable def g42 (h:R42) (a:Int) (b:LL) (c:LL) (d:LL) (e:LL):Option (LL):=h [.i a,.l b,.l c,.l d,.l e]
noncomputable def Zn0 (h:R42) (k:Nat) (a:Int) (b:LL) (c:LL) (d:LL) (e:LL) (f:Int) (g:Int) (j:LL):Option (LL):=(F42 h).lp [3] 0 r0 k [.i a,.l b,.l c,.l d,.l e,.i f,.i g,.l j]
theorem ZlA (h:R42) (k:Nat) (f:Int) (g:LL) (c:LL) (i:LL) (j:LL) (l:Int) (e:Int) (a:LL):Zn0 h (k+1) f g c i j l e a =
 (if (cop .lss e l) then
 Zk j e [.int .i64] fun (b:Int)=>
 Zk (Zc (.get 1) a 0 g []) 0 [.cel] fun (o:LL)=>
 Zf ((Zc .pnn o 0 E0 [])≠[])<|
 Zf ((Zc .pnn o 0 E0 [])≠[])<|
 Zk (Zc (.get 1) a 0 (Zc (.padd 0) o 0 E0 []) []) 0 [.cel] fun (m:LL)=>
 Zf ((Zc .mchk a 0 m [])≠[])<|
 Zf ((Zc .pnn (Zc .mget a b m []) 0 E0 [])≠[])<|
 Zf ((Zc .pnn (Zc .mget a b m []) 0 E0 [])≠[])<|
 Zk (Zc (.get 1) a 0 (Zc (.padd 1) (Zc .mget a b m []) 0 E0 []) []) 0 [.int .i64] fun (p:Int)=>
 if (cop .eql p f) then
 Zk (Zc (.get 1) a 0 c []) 0 [.cel] fun (d:LL)=>
 Zf ((E0++[[AV.val (.int .i64 b)]])≠[])<|
 Zf ((Zc (.vchk 3 1) a 0 d [])≠[])<|
 Zf (Jp (Zc .plen d 0 E0 []) (E0++[[AV.val (.int .i64 b)]]) 8)<|
 Zf ((Zc (.get 1) (Zc (.app 1) a 0 d [AV.slice Xe 1 (E0++[[AV.val (.int .i64 b)]])]) 0 c [])≠[])<|
 Zk (Zc (.get 1) (Zc .set (Zc (.app 1) a 0 d [AV.slice Xe 1 (E0++[[AV.val (.int .i64 b)]])]) 0 c [Zd (Zc (.papp 3) a 0 d [AV.slice Xe 1 (E0++[[AV.val (.int .i64 b)]])])]) 0 i []) 0 [.cel] fun (n:LL)=>
 Zf ((Zc (.pisf 42 3) n 0 E0 [])≠[])<|
 (g42 h b (Zc (.pcap 0) n 0 E0 []) (Zc (.pcap 1) n 0 E0 []) (Zc (.pcap 2) n 0 E0 []) (Zc .set (Zc (.app 1) a 0 d [AV.slice Xe 1 (E0++[[AV.val (.int .i64 b)]])]) 0 c [Zd (Zc (.papp 3) a 0 d [AV.slice Xe 1 (E0++[[AV.val (.int .i64 b)]])])])).bind fun q=>
 Zn0 h k f g c i j l (iop .add .i64 e 1) q
 else
 Zn0 h k f g c i j l (iop .add .i64 e 1) a
 else
 Xa (a)):=by kernel_rfl
theorem ZvD (h:R42) (d:Int) (a:LL) (e:LL) (f:LL) (b:LL):g42 (F42 h).S.g d a e f b =
 (Zk (Zc (.get 1) b 0 a []) 0 [.cel] fun (i:LL)=>
 (g29 i b).bind fun c=>
 Zn0 h Jl d a e f c.1 (Xn c.1:Int) 0 c.2):=by kernel_rfl
noncomputable def F19:Fn:=⟨21,[4],[],[],1,[2,5,6],[],Xa 21,[22],[(15,(42,3))],Try.f19,([.c (.cel),.c (.int .i64)]++Xg 19 .dead++[.sto]),[.c (.cel)],[(42,F42.S),(43,F43.S)]⟩
theorem ZxP:F19.S.Ok Try.prog 19:=F19.ok Try.func19 (by kernel_rfl) ⟨Zx2,⟨ZwY,trivial⟩⟩
noncomputable def g19 (a:LL) (b:Int) (c:LL):Option (LL×LL):=F19.S.g [.l a,.i b,.l c]
theorem Zve (b:LL) (e:Int) (a:LL):g19 b e a =
 (Zf ((Zc .pis0 (Zc .pnew a 0 E0 []) 0 E0 [])≠[])<|
 Zf ((Zc .pis0 (Zc .pnew (a++[[Zd b]]) 0 E0 []) 0 E0 [])≠[])<|
 Zf ((Zc .pis0 (Zc .pnew ((a++[[Zd b]])++[[Zd (Zc (.pnil 1) E0 0 E0 [])]]) 0 E0 []) 0 E0 [])≠[])<|
 Zf ((Zc .pnn (Zc .pnew a 0 E0 []) 0 E0 [])≠[])<|
 Zf ((Zc .pnn (Zc .pnew (a++[[Zd b]]) 0 E0 []) 0 E0 [])≠[])<|
 Zf ((Zc .pnn (Zc .pnew ((a++[[Zd b]])++[[Zd (Zc (.pnil 1) E0 0 E0 [])]]) 0 E0 []) 0 E0 [])≠[])<|
 Zf ((Zc (.get 1) (((a++[[Zd b]])++[[Zd (Zc (.pnil 1) E0 0 E0 [])]])++[[Zd (Zc (.pnil 3) E0 0 E0 [])]]) 0 (Zc .pnew ((a++[[Zd b]])++[[Zd (Zc (.pnil 1) E0 0 E0 [])]]) 0 E0 []) [])≠[])<|
 Zk (Zc (.get 1) (Zc .set (((a++[[Zd b]])++[[Zd (Zc (.pnil 1) E0 0 E0 [])]])++[[Zd (Zc (.pnil 3) E0 0 E0 [])]]) 0 (Zc .pnew ((a++[[Zd b]])++[[Zd (Zc (.pnil 1) E0 0 E0 [])]]) 0 E0 []) [Zd (Zc (.pfnc 42) E0 0 E0 [Zd (Zc .pnew a 0 E0 []),Zd (Zc .pnew (a++[[Zd b]]) 0 E0 []),Zd (Zc .pnew ((a++[[Zd b]])++[[Zd (Zc (.pnil 1) E0 0 E0 [])]]) 0 E0 [])])]) 0 (Zc .pnew a 0 E0 []) []) 0 [.cel] fun (f:LL)=>
 Zf ((Zc .pnn f 0 E0 [])≠[])<|
 Zf ((Zc .pnn f 0 E0 [])≠[])<|
 Zk (Zc (.get 1) (Zc .set (((a++[[Zd b]])++[[Zd (Zc (.pnil 1) E0 0 E0 [])]])++[[Zd (Zc (.pnil 3) E0 0 E0 [])]]) 0 (Zc .pnew ((a++[[Zd b]])++[[Zd (Zc (.pnil 1) E0 0 E0 [])]]) 0 E0 []) [Zd (Zc (.pfnc 42) E0 0 E0 [Zd (Zc .pnew a 0 E0 []),Zd (Zc .pnew (a++[[Zd b]]) 0 E0 []),Zd (Zc .pnew ((a++[[Zd b]])++[[Zd (Zc (.pnil 1) E0 0 E0 [])]]) 0 E0 [])])]) 0 (Zc (.padd 0) f 0 E0 []) []) 0 [.cel] fun (g:LL)=>
 Zf ((Zc .mchk (Zc .set (((a++[[Zd b]])++[[Zd (Zc (.pnil 1) E0 0 E0 [])]])++[[Zd (Zc (.pnil 3) E0 0 E0 [])]]) 0 (Zc .pnew ((a++[[Zd b]])++[[Zd (Zc (.pnil 1) E0 0 E0 [])]]) 0 E0 []) [Zd (Zc (.pfnc 42) E0 0 E0 [Zd (Zc .pnew a 0 E0 []),Zd (Zc .pnew (a++[[Zd b]]) 0 E0 []),Zd (Zc .pnew ((a++[[Zd b]])++[[Zd (Zc (.pnil 1) E0 0 E0 [])]]) 0 E0 [])])]) 0 g [])≠[])<|
 Zf ((Zc .pisr (Zc .mget (Zc .set (((a++[[Zd b]])++[[Zd (Zc (.pnil 1) E0 0 E0 [])]])++[[Zd (Zc (.pnil 3) E0 0 E0 [])]]) 0 (Zc .pnew ((a++[[Zd b]])++[[Zd (Zc (.pnil 1) E0 0 E0 [])]]) 0 E0 []) [Zd (Zc (.pfnc 42) E0 0 E0 [Zd (Zc .pnew a 0 E0 []),Zd (Zc .pnew (a++[[Zd b]]) 0 E0 []),Zd (Zc .pnew ((a++[[Zd b]])++[[Zd (Zc (.pnil 1) E0 0 E0 [])]]) 0 E0 [])])]) e g []) 0 E0 [])≠[])<|
 if (cop .neq (Xn (Zc .pnn (Zc .mget (Zc .set (((a++[[Zd b]])++[[Zd (Zc (.pnil 1) E0 0 E0 [])]])++[[Zd (Zc (.pnil 3) E0 0 E0 [])]]) 0 (Zc .pnew ((a++[[Zd b]])++[[Zd (Zc (.pnil 1) E0 0 E0 [])]]) 0 E0 []) [Zd (Zc (.pfnc 42) E0 0 E0 [Zd (Zc .pnew a 0 E0 []),Zd (Zc .pnew (a++[[Zd b]]) 0 E0 []),Zd (Zc .pnew ((a++[[Zd b]])++[[Zd (Zc (.pnil 1) E0 0 E0 [])]]) 0 E0 [])])]) e g []) 0 E0 []):Int) 0) then
 Zk (Zc (.get 1) (Zc .set (((a++[[Zd b]])++[[Zd (Zc (.pnil 1) E0 0 E0 [])]])++[[Zd (Zc (.pnil 3) E0 0 E0 [])]]) 0 (Zc .pnew ((a++[[Zd b]])++[[Zd (Zc (.pnil 1) E0 0 E0 [])]]) 0 E0 []) [Zd (Zc (.pfnc 42) E0 0 E0 [Zd (Zc .pnew a 0 E0 []),Zd (Zc .pnew (a++[[Zd b]]) 0 E0 []),Zd (Zc .pnew ((a++[[Zd b]])++[[Zd (Zc (.pnil 1) E0 0 E0 [])]]) 0 E0 [])])]) 0 (Zc .pnew ((a++[[Zd b]])++[[Zd (Zc (.pnil 1) E0 0 E0 [])]]) 0 E0 []) []) 0 [.cel] fun (c:LL)=>
 Zf ((Zc (.pisf 42 3) c 0 E0 [])≠[])<|
 (g42 (G42 128) e (Zc (.pcap 0) c 0 E0 []) (Zc (.pcap 1) c 0 E0 []) (Zc (.pcap 2) c 0 E0 []) (Zc .set (((a++[[Zd b]])++[[Zd (Zc (.pnil 1) E0 0 E0 [])]])++[[Zd (Zc (.pnil 3) E0 0 E0 [])]]) 0 (Zc .pnew ((a++[[Zd b]])++[[Zd (Zc (.pnil 1) E0 0 E0 [])]]) 0 E0 []) [Zd (Zc (.pfnc 42) E0 0 E0 [Zd (Zc .pnew a 0 E0 []),Zd (Zc .pnew (a++[[Zd b]]) 0 E0 []),Zd (Zc .pnew ((a++[[Zd b]])++[[Zd (Zc (.pnil 1) E0 0 E0 [])]]) 0 E0 [])])])).bind fun d=>
 Zk (Zc (.get 1) d 0 (Zc .pnew (a++[[Zd b]]) 0 E0 []) []) 0 [.cel] fun (h:LL)=>
 (g43 h d).bind fun i=>
 Zk (Zc (.get 1) i 0 (Zc .pnew (a++[[Zd b]]) 0 E0 []) []) 0 [.cel] fun (j:LL)=>
 Xa (j,i)
 else
 Zk (Zc (.get 1) (Zc .set (((a++[[Zd b]])++[[Zd (Zc (.pnil 1) E0 0 E0 [])]])++[[Zd (Zc (.pnil 3) E0 0 E0 [])]]) 0 (Zc .pnew ((a++[[Zd b]])++[[Zd (Zc (.pnil 1) E0 0 E0 [])]]) 0 E0 []) [Zd (Zc (.pfnc 42) E0 0 E0 [Zd (Zc .pnew a 0 E0 []),Zd (Zc .pnew (a++[[Zd b]]) 0 E0 []),Zd (Zc .pnew ((a++[[Zd b]])++[[Zd (Zc (.pnil 1) E0 0 E0 [])]]) 0 E0 [])])]) 0 (Zc .pnew (a++[[Zd b]]) 0 E0 []) []) 0 [.cel] fun (c:LL)=>
 (g43 c (Zc .set (((a++[[Zd b]])++[[Zd (Zc (.pnil 1) E0 0 E0 [])]])++[[Zd (Zc (.pnil 3) E0 0 E0 [])]]) 0 (Zc .pnew ((a++[[Zd b]])++[[Zd (Zc (.pnil 1) E0 0 E0 [])]]) 0 E0 []) [Zd (Zc (.pfnc 42) E0 0 E0 [Zd (Zc .pnew a 0 E0 []),Zd (Zc .pnew (a++[[Zd b]]) 0 E0 []),Zd (Zc .pnew ((a++[[Zd b]])++[[Zd (Zc (.pnil 1) E0 0 E0 [])]]) 0 E0 [])])])).bind fun d=>
 Zk (Zc (.get 1) d 0 (Zc .pnew (a++[[Zd b]]) 0 E0 []) []) 0 [.cel] fun (h:LL)=>
 Xa (h,d)):=by kernel_rfl
noncomputable def F21:Fn:=⟨37,[6,7],[],[],1,[],[],Xa 37,[22],[],Try.f21,([.c (.cel),.c (.int .i64),.c (.int .i64)]++Xg 34 .dead++[.sto]),[.c (.own Xe 35),.c (.int .i64)],[(27,F27.S),(19,F19.S),(44,F44.S),(45,F45.S)]⟩
theorem ZxF:F21.S.Ok Try.prog 21:=F21.ok Try.func21 (by kernel_rfl) ⟨Zua,⟨ZxP,⟨Zw4,⟨ZwV,trivial⟩⟩⟩⟩
noncomputable def g21 (a:LL) (b:Int) (c:Int) (d:LL):Option (LL×Int×LL):=F21.S.g [.l a,.i b,.i c,.l d]
theorem ZvV (c:LL) (g:Int) (a:Int) (i:LL):g21 c g a i =
 ((g27 c g i).bind fun h=>
 Zf ((Zc .pisr h.1 0 E0 [])≠[])<|
 if (cop .eql (Xn (Zc .pnn h.1 0 E0 []):Int) 0) then
 Xa (E0,17,h.2)
 else
 (g27 c a h.2).bind fun f=>
 Zf ((Zc .pisr f.1 0 E0 [])≠[])<|
 if (cop .eql (Xn (Zc .pnn f.1 0 E0 []):Int) 0) then
 Xa (E0,17,f.2)
 else
 if (cop .neq a g) then
 (g19 c g f.2).bind fun b=>
 (g44 b.1 a b.2).bind fun e=>
 if (!e.1) then
 Xa (E0,8,e.2)
 else
 (g19 c a e.2).bind fun d=>
 Zf ((Zc (.vchk 3 1) d.2 0 d.1 [])≠[])<|
 Zf (Jp (E0++[[AV.val (.int .i64 a)]]) (Zc (.view 1) d.2 0 d.1 []) 8)<|
 (g45 c ((E0++[[AV.val (.int .i64 a)]])++(Zc (.view 1) d.2 0 d.1 [])) (-1) d.2).bind fun j=>
 Xa (j.1,0,j.2)
 else
 (g19 c a f.2).bind fun b=>
 Zf ((Zc (.vchk 3 1) b.2 0 b.1 [])≠[])<|
 Zf (Jp (E0++[[AV.val (.int .i64 a)]]) (Zc (.view 1) b.2 0 b.1 []) 8)<|
 (g45 c ((E0++[[AV.val (.int .i64 a)]])++(Zc (.view 1) b.2 0 b.1 [])) (-1) b.2).bind fun e=>
 Xa (e.1,0,e.2)):=by kernel_rfl
end Go.Proofs.Ytpjnmgjphfnmmaa
