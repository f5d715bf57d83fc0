import Derived.Test.YtjldbnbdcmfbmaaGreatF8f
open Option renaming some→Xa
open Bool renaming false→Xc
open List renaming length→Xh
open Int renaming toNat→XJ
set_option linter.unusedVariables false
set_option linter.unusedSimpArgs false
set_option linter.defProp false
namespace Go.Proofs.YtjldbnbdcmfbmaaGreat
open Go Go.AM
set_option maxRecDepth 100000
noncomputable def F4:Fn:=⟨98,[12],[],[],0,[],[(9,[(13,0)])],Tryz.f4,[.c (.slice 1),.c (.int .i64),.c (.slice 1),.c (.slice 10),.c (.int .i64),.c (.int .u8)],[.c (.bool)],[(9,F9.S),(11,F11.S),(10,F10.S),(15,F15.S),(13,F13.S),(17,F17.S),(18,F18.S),(19,F19.S)]⟩
def ok4:F4.S.Ok Tryz.prog 4:=F4.ok Tryz.func4 ⟨ok9,⟨ZJA,⟨ZJ3,⟨ZJo,⟨Zrl,⟨ZIO,⟨ZLe,⟨ZF7,trivial⟩⟩⟩⟩⟩⟩⟩⟩
noncomputable def g4 (a:LL) (b:Int) (c d:LL) (e f:Int):Option (Bool):=F4.S.g [.l a,.i b,.l c,.l d,.i e,.i f]
def ZGO (h:LL) (l:Int) (k m:LL) (n j:Int):g4 h l k m n j =
 (if P0 .gtr (Xh h:Int) 2000 then
 (g9).bind fun i=>
 Xa (i)
 else
 if P0 .gtr (Xh k:Int) 100 then
 (g9).bind fun i=>
 Xa (i)
 else
 (g11 m).bind fun i=>
 (g10 l k i).bind fun e=>
 (g15 e.1 e.2.1 e.2.2.1 e.2.2.2.1 (d4 e).1 (d4 e).2.1 (d6 e).1 (d6 e).2.1 (d8 e).1 (d8 e).2.1 (df e).1 (df e).2.1 (dg e).1 (dg e).2.1 (dh e).1 (dh e).2.1 (P2 e).1 (P2 e).2.1 (d2 (P2 e)).1 (d2 (P2 e)).2.1 (d4 (P2 e)).1 (d4 (P2 e)).2.1 (d6 (P2 e)).1 (d6 (P2 e)).2.1 (d8 (P2 e)).1 (d8 (P2 e)).2.1 (df (P2 e)).1 (df (P2 e)).2.1 (dg (P2 e)).1 (dg (P2 e)).2.1 (dh (P2 e)).1 (dh (P2 e)).2.1 (di e).1 (di e).2.1 (d2 (di e)).1 (d2 (di e)).2.1 (d4 (di e)).1 (d4 (di e)).2.1 (d6 (di e)).1 (d6 (di e)).2.1 (d8 (di e)).1 (d8 (di e)).2.1 (df (di e)).1 (df (di e)).2.1 (dg (di e)).1 (dg (di e)).2.1 (dh (di e)).1 (dh (di e)).2.1 (dj e).1 (dj e).2.1 (d2 (dj e)).1 (d2 (dj e)).2.1 (d4 (dj e)).1 (d4 (dj e)).2.1 (d6 (dj e)).1 (d6 (dj e)).2.1 (d8 (dj e)).1 (d8 (dj e)).2.1 (df (dj e)).1 (df (dj e)).2.1 (dg (dj e)).1 (dg (dj e)).2.1 (dh (dj e)).1 (dh (dj e)).2.1 (dk e).1 (dk e).2.1 (d2 (dk e)).1 (d2 (dk e)).2.1 (d4 (dk e)).1 (d4 (dk e)).2.1 (d6 (dk e)).1 (d6 (dk e)).2.1 (d8 (dk e)).1 (d8 (dk e)).2).bind fun f=>
 if P0 .neq f.2 0 then
 Xa (Xc)
 else
 if P0 .eql (Xh f.1:Int) 0 then
 Xa (Xc)
 else
 (g13 n (Xh f.1:Int)).bind fun g=>
 Zy ((0:Int)≤g)<|
 Zy ((g:Int) < (Xh f.1:Int))<|
 Zy ((0:Int)≤g)<|
 Zy ((g:Int) < (Xh f.1:Int))<|
 Zy (Z6 E0 h 1)<|
 (g17 h).bind fun a=>
 (g18 h).bind fun b=>
 Zy (Z6 E0 (Jk f.1 (XJ g) 0 [AV.val (.int .u8 j)]) 1)<|
 (g17 (Jk f.1 (XJ g) 0 [AV.val (.int .u8 j)])).bind fun c=>
 (g18 (Jk f.1 (XJ g) 0 [AV.val (.int .u8 j)])).bind fun d=>
 (g19 a.1 a.2.1 a.2.2.1 a.2.2.2.1 (d4 a).1 (d4 a).2.1 (d6 a).1 (d6 a).2.1 (d8 a).1 (d8 a).2.1 (df a).1 (df a).2.1 (dg a).1 (dg a).2.1 (dh a).1 (dh a).2.1 (P2 a).1 (P2 a).2.1 (d2 (P2 a)).1 (d2 (P2 a)).2.1 (d4 (P2 a)).1 (d4 (P2 a)).2.1 (d6 (P2 a)).1 (d6 (P2 a)).2.1 (d8 (P2 a)).1 (d8 (P2 a)).2.1 (df (P2 a)).1 (df (P2 a)).2.1 (dg (P2 a)).1 (dg (P2 a)).2.1 (dh (P2 a)).1 (dh (P2 a)).2.1 (di a).1 (di a).2.1 (d2 (di a)).1 (d2 (di a)).2.1 (d4 (di a)).1 (d4 (di a)).2.1 (d6 (di a)).1 (d6 (di a)).2.1 (d8 (di a)).1 (d8 (di a)).2.1 (df (di a)).1 (df (di a)).2.1 (dg (di a)).1 (dg (di a)).2.1 (dh (di a)).1 (dh (di a)).2.1 (dj a).1 (dj a).2.1 (d2 (dj a)).1 (d2 (dj a)).2.1 (d4 (dj a)).1 (d4 (dj a)).2.1 (d6 (dj a)).1 (d6 (dj a)).2.1 (d8 (dj a)).1 (d8 (dj a)).2.1 (df (dj a)).1 (df (dj a)).2.1 (dg (dj a)).1 (dg (dj a)).2.1 (dh (dj a)).1 (dh (dj a)).2.1 (dk a).1 (dk a).2.1 (d2 (dk a)).1 (d2 (dk a)).2.1 (d4 (dk a)).1 (d4 (dk a)).2.1 (d6 (dk a)).1 (d6 (dk a)).2.1 (d8 (dk a)).1 (d8 (dk a)).2.1 b.1 b.2.1 b.2.2.1 b.2.2.2.1 (d4 b).1 (d4 b).2.1 (d6 b).1 (d6 b).2.1 (d8 b).1 (d8 b).2.1 (df b).1 (df b).2.1 (dg b).1 (dg b).2.1 (dh b).1 (dh b).2.1 (P2 b).1 (P2 b).2.1 (d2 (P2 b)).1 (d2 (P2 b)).2.1 (d4 (P2 b)).1 (d4 (P2 b)).2.1 (d6 (P2 b)).1 (d6 (P2 b)).2.1 (d8 (P2 b)).1 (d8 (P2 b)).2.1 (df (P2 b)).1 (df (P2 b)).2.1 (dg (P2 b)).1 (dg (P2 b)).2.1 (dh (P2 b)).1 (dh (P2 b)).2.1 (di b).1 (di b).2.1 (d2 (di b)).1 (d2 (di b)).2.1 (d4 (di b)).1 (d4 (di b)).2.1 (d6 (di b)).1 (d6 (di b)).2.1 (d8 (di b)).1 (d8 (di b)).2.1 (df (di b)).1 (df (di b)).2.1 (dg (di b)).1 (dg (di b)).2.1 (dh (di b)).1 (dh (di b)).2.1 (dj b).1 (dj b).2.1 (d2 (dj b)).1 (d2 (dj b)).2.1 (d4 (dj b)).1 (d4 (dj b)).2.1 (d6 (dj b)).1 (d6 (dj b)).2.1 (d8 (dj b)).1 (d8 (dj b)).2.1 (df (dj b)).1 (df (dj b)).2.1 (dg (dj b)).1 (dg (dj b)).2.1 (dh (dj b)).1 (dh (dj b)).2.1 (dk b).1 (dk b).2.1 (d2 (dk b)).1 (d2 (dk b)).2.1 (d4 (dk b)).1 (d4 (dk b)).2.1 (d6 (dk b)).1 (d6 (dk b)).2.1 (d8 (dk b)).1 (d8 (dk b)).2.1).bind fun o=>
 if o then
 if (P0 .eql (df (dk a)) (df (dk b))) then
 (g19 c.1 c.2.1 c.2.2.1 c.2.2.2.1 (d4 c).1 (d4 c).2.1 (d6 c).1 (d6 c).2.1 (d8 c).1 (d8 c).2.1 (df c).1 (df c).2.1 (dg c).1 (dg c).2.1 (dh c).1 (dh c).2.1 (P2 c).1 (P2 c).2.1 (d2 (P2 c)).1 (d2 (P2 c)).2.1 (d4 (P2 c)).1 (d4 (P2 c)).2.1 (d6 (P2 c)).1 (d6 (P2 c)).2.1 (d8 (P2 c)).1 (d8 (P2 c)).2.1 (df (P2 c)).1 (df (P2 c)).2.1 (dg (P2 c)).1 (dg (P2 c)).2.1 (dh (P2 c)).1 (dh (P2 c)).2.1 (di c).1 (di c).2.1 (d2 (di c)).1 (d2 (di c)).2.1 (d4 (di c)).1 (d4 (di c)).2.1 (d6 (di c)).1 (d6 (di c)).2.1 (d8 (di c)).1 (d8 (di c)).2.1 (df (di c)).1 (df (di c)).2.1 (dg (di c)).1 (dg (di c)).2.1 (dh (di c)).1 (dh (di c)).2.1 (dj c).1 (dj c).2.1 (d2 (dj c)).1 (d2 (dj c)).2.1 (d4 (dj c)).1 (d4 (dj c)).2.1 (d6 (dj c)).1 (d6 (dj c)).2.1 (d8 (dj c)).1 (d8 (dj c)).2.1 (df (dj c)).1 (df (dj c)).2.1 (dg (dj c)).1 (dg (dj c)).2.1 (dh (dj c)).1 (dh (dj c)).2.1 (dk c).1 (dk c).2.1 (d2 (dk c)).1 (d2 (dk c)).2.1 (d4 (dk c)).1 (d4 (dk c)).2.1 (d6 (dk c)).1 (d6 (dk c)).2.1 (d8 (dk c)).1 (d8 (dk c)).2.1 d.1 d.2.1 d.2.2.1 d.2.2.2.1 (d4 d).1 (d4 d).2.1 (d6 d).1 (d6 d).2.1 (d8 d).1 (d8 d).2.1 (df d).1 (df d).2.1 (dg d).1 (dg d).2.1 (dh d).1 (dh d).2.1 (P2 d).1 (P2 d).2.1 (d2 (P2 d)).1 (d2 (P2 d)).2.1 (d4 (P2 d)).1 (d4 (P2 d)).2.1 (d6 (P2 d)).1 (d6 (P2 d)).2.1 (d8 (P2 d)).1 (d8 (P2 d)).2.1 (df (P2 d)).1 (df (P2 d)).2.1 (dg (P2 d)).1 (dg (P2 d)).2.1 (dh (P2 d)).1 (dh (P2 d)).2.1 (di d).1 (di d).2.1 (d2 (di d)).1 (d2 (di d)).2.1 (d4 (di d)).1 (d4 (di d)).2.1 (d6 (di d)).1 (d6 (di d)).2.1 (d8 (di d)).1 (d8 (di d)).2.1 (df (di d)).1 (df (di d)).2.1 (dg (di d)).1 (dg (di d)).2.1 (dh (di d)).1 (dh (di d)).2.1 (dj d).1 (dj d).2.1 (d2 (dj d)).1 (d2 (dj d)).2.1 (d4 (dj d)).1 (d4 (dj d)).2.1 (d6 (dj d)).1 (d6 (dj d)).2.1 (d8 (dj d)).1 (d8 (dj d)).2.1 (df (dj d)).1 (df (dj d)).2.1 (dg (dj d)).1 (dg (dj d)).2.1 (dh (dj d)).1 (dh (dj d)).2.1 (dk d).1 (dk d).2.1 (d2 (dk d)).1 (d2 (dk d)).2.1 (d4 (dk d)).1 (d4 (dk d)).2.1 (d6 (dk d)).1 (d6 (dk d)).2.1 (d8 (dk d)).1 (d8 (dk d)).2.1).bind fun p=>
 if p then
 if (P0 .eql (df (dk c)) (df (dk d))) then
 (g9).bind fun q=>
 Xa (q)
 else
 Xa (Xc)
 else
 Xa (Xc)
 else
 Xa (Xc)
 else
 Xa (Xc)):=by kernel_rfl
end Go.Proofs.YtjldbnbdcmfbmaaGreat
