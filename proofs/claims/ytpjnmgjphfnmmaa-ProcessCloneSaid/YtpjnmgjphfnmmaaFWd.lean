import Derived.Test.YtpjnmgjphfnmmaaFWc
open Option renaming some→Xa
open Bool renaming false→Xe
open List renaming replicate→Xg,length→Xn
set_option linter.unusedVariables false
set_option linter.unusedSimpArgs false
set_option linter.defProp false
namespace Go.Proofs.Ytpjnmgjphfnmmaa
open Go Go.AM
set_option maxRecDepth 100000
noncomputable def F47:Fn:=⟨7,[3],[],[],1,[],[],Xa 7,[],[],Try.f47,([.c (.int .i64),.c (.cel)]++Xg 5 .dead++[.sto]),[.c (.bool)],[]⟩
theorem Zw9:F47.S.Ok Try.prog 47:=F47.ok Try.func47 (by kernel_rfl) trivial
noncomputable def g47 (a:Int) (b:LL) (c:LL):Option (Bool×LL):=F47.S.g [.i a,.l b,.l c]
theorem ZuG (b:Int) (c:LL) (a:LL):g47 b c a =
 (Zk (Zc (.get 1) a 0 c []) 0 [.int .i64] fun (d:Int)=>
 Xa ((cop .eql b d),a)):=by kernel_rfl
noncomputable def F65:Fn:=⟨19,[4],[(2,[(0,.c (.cel)),(1,.c (.cel)),(7,.c (.int .i64)),(8,.c (.int .i64)),(19,.sto)])],[],1,[],[],Xa 19,[],[(11,(47,1))],Try.f65,([.c (.cel),.c (.cel)]++Xg 17 .dead++[.sto]),[.c (.int .i64)],[(47,F47.S)]⟩
theorem Zxs:F65.S.Ok Try.prog 65:=F65.ok Try.func65 (by kernel_rfl) ⟨Zw9,trivial⟩
noncomputable def g65 (a:LL) (b:LL) (c:LL):Option (Int×LL):=F65.S.g [.l a,.l b,.l c]
noncomputable def ZqU (k:Nat) (a:LL) (b:LL) (c:Int) (d:Int) (e:LL):Option (Int×LL):=F65.lp [2] 0 r0 k [.l a,.l b,.i c,.i d,.l e]
theorem Zlo (k:Nat) (b:LL) (c:LL) (e:Int) (a:Int) (d:LL):ZqU (k+1) b c e a d =
 (if (cop .lss a e) then
 Zf ((0:Int)≤a)<|
 Zf ((a:Int) < (Xn (Zc .plen b 0 E0 []):Int))<|
 Zk (Zc (.get 1) d 0 (Zc (.pidx 1) b a E0 []) []) 0 [.int .i64] fun (g:Int)=>
 Zf ((Zc (.pisf 47 1) c 0 E0 [])≠[])<|
 (g47 g (Zc (.pcap 0) c 0 E0 []) d).bind fun f=>
 if f.1 then
 Xa (a,f.2)
 else
 ZqU k b c e (iop .add .i64 a 1) f.2
 else
 Xa ((-1),d)):=by kernel_rfl
theorem ZuS (a:LL) (b:LL) (c:LL):g65 a b c =
 (Zf ((Zc .pisl a 0 E0 [])≠[])<|
 ZqU Jl a b (Xn (Zc .plen a 0 E0 []):Int) 0 c):=by kernel_rfl
noncomputable def F46:Fn:=⟨42,[4],[(5,[(0,.c (.cel)),(1,.c (.cel)),(5,.c (.int .i64)),(6,.c (.int .i64)),(42,.sto)])],[],1,[],[],Xa 42,[],[(26,(47,1))],Try.f46,([.c (.cel),.c (.cel)]++Xg 40 .dead++[.sto]),[.c (.cel)],[(65,F65.S),(47,F47.S)]⟩
theorem ZxH:F46.S.Ok Try.prog 46:=F46.ok Try.func46 (by kernel_rfl) ⟨Zxs,⟨Zw9,trivial⟩⟩
noncomputable def g46 (a:LL) (b:LL) (c:LL):Option (LL×LL):=F46.S.g [.l a,.l b,.l c]
noncomputable def Zpj (k:Nat) (a:LL) (b:LL) (c:Int) (d:Int) (e:LL):Option (LL×LL):=F46.lp [0,1,0] 0 r0 k [.l a,.l b,.i c,.i d,.l e]
theorem Zka (k:Nat) (a:LL) (d:LL) (b:Int) (c:Int) (e:LL):Zpj (k+1) a d b c e =
 (Zf ((Zc .pisl a 0 E0 [])≠[])<|
 if (cop .lss c (Xn (Zc .plen a 0 E0 []):Int)) then
 Zf ((0:Int)≤c)<|
 Zf ((c:Int) < (Xn (Zc .plen a 0 E0 []):Int))<|
 Zk (Zc (.get 1) e 0 (Zc (.pidx 1) a c E0 []) []) 0 [.int .i64] fun (g:Int)=>
 Zf ((Zc (.pisf 47 1) d 0 E0 [])≠[])<|
 (g47 g (Zc (.pcap 0) d 0 E0 []) e).bind fun f=>
 if (!f.1) then
 Zf ((0:Int)≤b)<|
 Zf ((b:Int) < (Xn (Zc .plen a 0 E0 []):Int))<|
 Zf ((Zc (.get 1) f.2 0 (Zc (.pidx 1) a b E0 []) [])≠[])<|
 Zpj k a d (iop .add .i64 b 1) (iop .add .i64 c 1) (Zc .set f.2 0 (Zc (.pidx 1) a b E0 []) [AV.val (.int .i64 g)])
 else
 Zpj k a d b (iop .add .i64 c 1) f.2
 else
 Zf ((Zc (.vchk 3 1) e 0 a [])≠[])<|
 Zf ((0:Int)≤b)<|
 Zf ((b:Int)≤(Xn (Zc .plen a 0 E0 []):Int))<|
 Zf ((Zc .pisl a 0 E0 [])≠[])<|
 Zf ((0:Int)≤b)<|
 Zf ((b:Int)≤(Xn (Zc .plen a 0 E0 []):Int))<|
 Xa ((Zc .pcut a b E0 []),(Zc (.clr 1) e b a [AV.val (.int .i64 0)]))):=by kernel_rfl
theorem Zvv (b:LL) (c:LL) (d:LL):g46 b c d =
 ((g65 b c d).bind fun a=>
 if (cop .eql a.1 (-1)) then
 Xa (b,a.2)
 else
 Zpj Jl b c a.1 (iop .add .i64 a.1 1) a.2):=by kernel_rfl
noncomputable def F23:Fn:=⟨49,[4,5],[(5,[(0,.c (.cel)),(3,.c (.cel)),(6,.c (.own Xe 3)),(14,.c (.slice 1)),(15,.c (.int .i64)),(16,.c (.int .i64)),(49,.sto)])],[],1,[3],[],Xa 49,[22],[],Try.f23,([.c (.cel),.c (.int .i64)]++Xg 47 .dead++[.sto]),[.c (.own Xe 35),.c (.int .i64)],[(26,F26.S),(29,F29.S),(46,F46.S),(45,F45.S)]⟩
theorem ZxX:F23.S.Ok Try.prog 23:=F23.ok Try.func23 (by kernel_rfl) ⟨Zwd,⟨Zuj,⟨ZxH,⟨ZwV,trivial⟩⟩⟩⟩
noncomputable def g23 (a:LL) (b:Int) (c:LL):Option (LL×Int×LL):=F23.S.g [.l a,.i b,.l c]
noncomputable def Zmj (k:Nat) (a:LL) (b:LL) (c:LL) (d:LL) (e:Int) (f:Int) (g:LL):Option (LL×Int×LL):=F23.lp [2,1,2] 0 r0 k [.l a,.l b,.l c,.l d,.i e,.i f,.l g]
theorem Zk8 (k:Nat) (d:LL) (f:LL) (g:LL) (i:LL) (j:Int) (h:Int) (a:LL):Zmj (k+1) d f g i j h a =
 (if (cop .lss h j) then
 Zk i h [.int .i64] fun (b:Int)=>
 Zf ((Zc .pnn d 0 E0 [])≠[])<|
 Zf ((Zc .pnn d 0 E0 [])≠[])<|
 Zk (Zc (.get 1) a 0 (Zc (.padd 0) d 0 E0 []) []) 0 [.cel] fun (c:LL)=>
 Zf ((Zc .mchk a 0 c [])≠[])<|
 Zf ((Zc .pnn (Zc .mget a b c []) 0 E0 [])≠[])<|
 Zf ((Zc .pnn (Zc .mget a b c []) 0 E0 [])≠[])<|
 Zk (Zc (.get 1) a 0 (Zc (.padd 3) (Zc .mget a b c []) 0 E0 []) []) 0 [.cel] fun (m:LL)=>
 Zf ((Zc .pis0 f 0 E0 [])≠[])<|
 Zf ((Zc .pnn f 0 E0 [])≠[])<|
 (g46 m (Zc (.pfnc 47) E0 0 E0 [Zd f]) a).bind fun e=>
 Zf ((Zc .pnn (Zc .mget a b c []) 0 E0 [])≠[])<|
 Zf ((Zc .pnn (Zc .mget a b c []) 0 E0 [])≠[])<|
 Zf ((Zc (.get 1) e.2 0 (Zc (.padd 3) (Zc .mget a b c []) 0 E0 []) [])≠[])<|
 Zf ((Zc .pnn (Zc .mget a b c []) 0 E0 [])≠[])<|
 Zf ((Zc .pnn (Zc .mget a b c []) 0 E0 [])≠[])<|
 Zk (Zc (.get 1) (Zc .set e.2 0 (Zc (.padd 3) (Zc .mget a b c []) 0 E0 []) [Zd e.1]) 0 (Zc (.padd 3) (Zc .mget a b c []) 0 E0 []) []) 0 [.cel] fun (l:LL)=>
 Zf ((Zc .pisl l 0 E0 [])≠[])<|
 if (cop .eql (Xn (Zc .plen l 0 E0 []):Int) 0) then
 Zf (Jp g (E0++[[AV.val (.int .i64 b)]]) 8)<|
 Zmj k d f (g++(E0++[[AV.val (.int .i64 b)]])) i j (iop .add .i64 h 1) (Zc .set e.2 0 (Zc (.padd 3) (Zc .mget a b c []) 0 E0 []) [Zd e.1])
 else
 Zmj k d f g i j (iop .add .i64 h 1) (Zc .set e.2 0 (Zc (.padd 3) (Zc .mget a b c []) 0 E0 []) [Zd e.1])
 else
 (g45 d g (-2) a).bind fun b=>
 Xa (b.1,0,b.2)):=by kernel_rfl
theorem ZvQ (c:LL) (b:Int) (a:LL):g23 c b a =
 (Zk (Zc (.get 1) (a++[[AV.val (.int .i64 b)]]) 0 (Zc .pnew a 0 E0 []) []) 0 [.int .i64] fun (e:Int)=>
 (g26 e).bind fun f=>
 if (!f) then
 Xa (E0,1,(a++[[AV.val (.int .i64 b)]]))
 else
 (g29 c (a++[[AV.val (.int .i64 b)]])).bind fun d=>
 Zmj Jl c (Zc .pnew a 0 E0 []) E0 d.1 (Xn d.1:Int) 0 d.2):=by kernel_rfl
noncomputable def F11:Fn:=⟨70,[4,5,6],[(8,[(0,.c (.cel)),(1,.c (.int .i64)),(4,.box [.int .i64,.int .i64,.int .i64]),(7,.c (.cel)),(8,.c (.int .i64)),(26,.c (.slice 1)),(27,.c (.int .i64)),(28,.c (.int .i64)),(70,.sto)])],[],1,[],[],Xa 70,[22],[],Try.f11,([.c (.cel),.c (.int .i64)]++Xg 68 .dead++[.sto]),[.agg [.int .i64,.int .i64,.int .i64],.c (.bool),.c (.int .i64)],[(27,F27.S),(29,F29.S)]⟩
theorem Zw2:F11.S.Ok Try.prog 11:=F11.ok Try.func11 (by kernel_rfl) ⟨Zua,⟨Zuj,trivial⟩⟩
noncomputable def g11 (a:LL) (b:Int) (c:LL):Option (Int×Int×Int×Bool×Int×LL):=F11.S.g [.l a,.i b,.l c]
noncomputable def ZoH (k:Nat) (a:LL) (b:Int) (c:Int) (d:Int) (e:Int) (f:LL) (g:Int) (h:LL) (j:Int) (m:Int) (n:LL):Option (Int×Int×Int×Bool×Int×LL):=F11.lp [2,1,3,1,2] 0 r0 k [.l a,.i b,.i c,.i d,.i e,.l f,.i g,.l h,.i j,.i m,.l n]
theorem ZlP (k:Nat) (d:LL) (f:Int) (l:Int) (m:Int) (n:Int) (e:LL) (h:Int) (i:LL) (j:Int) (g:Int) (a:LL):ZoH (k+1) d f l m n e h i j g a =
 (if (cop .lss g j) then
 Zk i g [.int .i64] fun (b:Int)=>
 Zf ((Zc .pnn d 0 E0 [])≠[])<|
 Zf ((Zc .pnn d 0 E0 [])≠[])<|
 Zk (Zc (.get 1) a 0 (Zc (.padd 0) d 0 E0 []) []) 0 [.cel] fun (c:LL)=>
 Zf ((Zc .mchk a 0 c [])≠[])<|
 Zf ((Zc .pnn (Zc .mget a b c []) 0 E0 [])≠[])<|
 Zf ((Zc .pnn (Zc .mget a b c []) 0 E0 [])≠[])<|
 Zk (Zc (.get 1) a 0 (Zc (.padd 1) (Zc .mget a b c []) 0 E0 []) []) 0 [.int .i64] fun (p:Int)=>
 if (cop .neq p f) then
 ZoH k d f l m n e h i j (iop .add .i64 g 1) a
 else
 Zf ((Zc .pnn (Zc .mget a b c []) 0 E0 [])≠[])<|
 Zf ((Zc .pnn (Zc .mget a b c []) 0 E0 [])≠[])<|
 Zk (Zc (.get 1) a 0 (Zc (.padd 4) (Zc .mget a b c []) 0 E0 []) []) 0 [.bool] fun (q:Bool)=>
 if q then
 Zf ((Zc .pnn d 0 E0 [])≠[])<|
 Zf ((Zc .pnn d 0 E0 [])≠[])<|
 Zk (Zc (.get 1) a 0 (Zc (.padd 0) d 0 E0 []) []) 0 [.cel] fun (o:LL)=>
 Zf ((Zc .mchk a 0 o [])≠[])<|
 Zf ((Zc .pnn (Zc .mget a b c []) 0 E0 [])≠[])<|
 Zf ((Zc .pnn (Zc .mget a b c []) 0 E0 [])≠[])<|
 Zk (Zc (.get 1) (Zc .mdel a b o []) 0 (Zc (.padd 5) (Zc .mget a b c []) 0 E0 []) []) 0 [.int .i64] fun (r:Int)=>
 Xa (f,b,r,true,0,(Zc .mdel a b o []))
 else
 ZoH k d f l m n e (iop .add .i64 h 1) i j (iop .add .i64 g 1) a
 else
 if (cop .eql h 0) then
 Xa (0,0,0,Xe,2,a)
 else
 Zf ((Zc .pnn e 0 E0 [])≠[])<|
 Zf ((Zc .pnn e 0 E0 [])≠[])<|
 Zf ((Zc (.get 1) a 0 (Zc (.padd 6) e 0 E0 []) [])≠[])<|
 Xa (0,0,0,Xe,0,(Zc .set a 0 (Zc (.padd 6) e 0 E0 []) [AV.val (.bool true)]))):=by kernel_rfl
theorem ZuI (b:LL) (c:Int) (e:LL):g11 b c e =
 ((g27 b c e).bind fun a=>
 Zf ((Zc .pisr a.1 0 E0 [])≠[])<|
 if (cop .eql (Xn (Zc .pnn a.1 0 E0 []):Int) 0) then
 Xa (0,0,0,Xe,17,a.2)
 else
 Zf ((Zc .pnn a.1 0 E0 [])≠[])<|
 Zf ((Zc .pnn a.1 0 E0 [])≠[])<|
 Zk (Zc (.get 1) a.2 0 (Zc (.padd 6) a.1 0 E0 []) []) 0 [.bool] fun (f:Bool)=>
 if f then
 Xa (0,0,0,Xe,4,a.2)
 else
 (g29 b a.2).bind fun d=>
 ZoH Jl b c 0 0 0 a.1 0 d.1 (Xn d.1:Int) 0 d.2):=by kernel_rfl
end Go.Proofs.Ytpjnmgjphfnmmaa
