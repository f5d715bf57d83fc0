import Derived.Test.YtpjnmgjphfnmmaaFT
open Option renaming some→Xa
open Bool renaming false→Xc
open List renaming replicate→Xg,length→Xn
set_option linter.unusedVariables false
set_option linter.unusedSimpArgs false
set_option linter.defProp false
namespace Go.Proofs.Ytpjnmgjphfnmmaa
open Go Go.AM
set_option maxRecDepth 100000
noncomputable def F22:Fn:=⟨18,[4],[(2,[(0,.c (.cel)),(1,.c (.int .i64)),(5,.c (.int .i64)),(18,.sto)])],[],1,[],[],Xa 18,[],[],Try.f22,([.c (.cel),.c (.int .i64)]++Xg 16 .dead++[.sto]),[.c (.bool)],[]⟩
theorem Zwr:F22.S.Ok Try.prog 22:=F22.ok Try.func22 (by kernel_rfl) trivial
noncomputable def g22 (a:LL) (b:Int) (c:LL):Option (Bool×LL):=F22.S.g [.l a,.i b,.l c]
noncomputable def Zqd (k:Nat) (a:LL) (b:Int) (c:Int) (d:LL):Option (Bool×LL):=F22.lp [0] 0 r0 k [.l a,.i b,.i c,.l d]
theorem Zkv (k:Nat) (a:LL) (d:Int) (b:Int) (c:LL):Zqd (k+1) a d b c =
 (Zg ((Zd .pisl a 0 E0 [])≠[])<|
 if (cop .lss b (Xn (Zd .plen a 0 E0 []):Int)) then
 Zg ((0:Int)≤b)<|
 Zg ((b:Int) < (Xn (Zd .plen a 0 E0 []):Int))<|
 Zl (Zd (.get 1) c 0 (Zd (.pidx 1) a b E0 []) []) 0 [.int .i64] fun (e:Int)=>
 if (cop .eql e d) then
 Xa (true,c)
 else
 Zqd k a d (iop .add .i64 b 1) c
 else
 Xa (Xc,c)):=by kernel_rfl
theorem ZuV (a:LL) (b:Int) (c:LL):g22 a b c =
 (Zqd Ju a b 0 c):=by kernel_rfl
noncomputable def F5:Fn:=⟨180,[8],[(3,[(1,.c (.slice 6)),(2,.c (.int .i64)),(3,.c (.int .i64)),(9,.c (.cel)),(10,.c (.cel)),(11,.c (.bool)),(12,.c (.int .i64)),(180,.sto)]),(22,[(14,.c (.int .i64)),(15,.c (.slice 7)),(16,.c (.cel)),(23,.c (.int .i64)),(24,.c (.slice 7)),(26,.c (.int .i64)),(180,.sto)])],[],1,[],[],Xa 180,[],[],Try.f5,([.c (.int .i64),.c (.slice 6),.c (.int .i64),.c (.int .i64)]++Xg 176 .dead++[.sto]),[.c (.bool)],[(16,F16.S),(17,F17.S),(9,F9.S),(14,F14.S),(19,F19.S),(20,F20.S),(21,F21.S),(22,F22.S),(15,F15.S)]⟩
theorem ok5:F5.S.Ok Try.prog 5:=F5.ok Try.func5 (by kernel_rfl) ⟨Zwc,⟨Zwq,⟨ok9,⟨ZvU,⟨ZvG,⟨Zv9,⟨ZvO,⟨Zwr,⟨Zwu,trivial⟩⟩⟩⟩⟩⟩⟩⟩⟩
noncomputable def g5 (a:Int) (b:LL) (c:Int) (d:Int) (e:LL):Option (Bool×LL):=F5.S.g [.i a,.l b,.i c,.i d,.l e]
noncomputable def Zpb (k:Nat) (a:Int) (b:LL) (c:LL) (d:Int) (e:LL) (f:Int) (g:LL):Option (Bool×LL):=F5.lp [3,0,1,1,10,1,0] 0 r0 k [.i a,.l b,.l c,.i d,.l e,.i f,.l g]
abbrev R7:=Int×Int×ByteArray×LL×Bool×Int×Bool
abbrev R8:=Int×Int×ByteArray×LL×Bool×Int×Bool×Bool
noncomputable def N5 (k:Nat) (a:Int) (b:LL) (c:LL) (d:Int) (e:LL) (f:Int) (r7:R7) (r14:R8) (s:LL):Option (Bool×LL):=
 if (!r7.2.2.2.2.1) then
 if (!r14.2.2.2.2.2.2.2) then Xa (Xc,s)
 else
 if r14.2.2.2.2.1 then Xa (Xc,s)
 else Zpb k a b c d e (iop .add .i64 f 1) s
 else Zpb k a b c d e (iop .add .i64 f 1) s
theorem Znn (k:Nat) (c:Int) (a:LL) (d:LL) (e:Int) (f:LL) (b:Int) (j:LL):Zpb (k+1) c a d e f b j =
 (if (cop .lss b (Xn a:Int)) then
 Zl a b [.int .i64,.int .i64,.str,.slice 1,.bool,.int .i64,.bool] fun (h:R7)=>
 (g20 f h.1).bind fun i=>
 if (cop .eql e 0) then
 if (cop .eql h.1 c) then
 if i.2.2.2.2.2.2.2 then
 if (!i.2.2.2.2.1) then Xa (Xc,j)
 else Zpb k c a d e f (iop .add .i64 b 1) j
 else Zpb k c a d e f (iop .add .i64 b 1) j
 else
 (g22 d h.1 j).bind fun g=>
 if g.1 then
 if i.2.2.2.2.2.2.2 then
 if (!i.2.2.2.2.1) then Xa (Xc,g.2)
 else
 (if (!g.1) then N5 k c a d e f b h i g.2 else Zpb k c a d e f (iop .add .i64 b 1) g.2)
 else
 (if (!g.1) then N5 k c a d e f b h i g.2 else Zpb k c a d e f (iop .add .i64 b 1) g.2)
 else
 (if (!g.1) then N5 k c a d e f b h i g.2 else Zpb k c a d e f (iop .add .i64 b 1) g.2)
 else N5 k c a d e f b h i j
 else
 (g15 j).bind fun h=>
 Xa (h.1,h.2)):=by kernel_rfl
noncomputable def Zu1 (k:Nat) (a:LL) (c:Int) (d:Int) (e:LL) (f:LL) (g:Bool) (h:Int) (j:LL):Option (Bool×LL):=F5.lp [2] 0 r0 k [.l a,.i c,.i d,.l e,.l f,.b g,.i h,.l j]
noncomputable def E5 (e w:Int) (b:Int) (bef:LL) (below:LL) (aft:LL) (s:LL):Option (Bool×LL):=
 if (cop .neq e w) then Xa (Xc,s) else Zpb Ju b bef below e aft 0 s
noncomputable def Z5 (m:Int) (n:Int) (f:LL) (o:Bool) (i:LL):Option (Bool×LL):=
 if (!o) then
 Xa (Xc,i)
 else
 (g9 m 8).bind fun g=>
 (g9 n 8).bind fun b=>
 (g14 f i).bind fun c=>
 (g19 f (iop .add .i64 1 b) c.2).bind fun d=>
 (g19 f (iop .add .i64 1 g) d.2).bind fun j=>
 (g20 c.1 (iop .add .i64 1 g)).bind fun k=>
 (g20 c.1 (iop .add .i64 1 b)).bind fun l=>
 (g21 f (iop .add .i64 1 g) (iop .add .i64 1 b) j.2).bind fun e=>
 (g14 f e.2.2).bind fun a=>
 if (!k.2.2.2.2.2.2.2) then E5 e.2.1 17 (iop .add .i64 1 b) c.1 d.1 a.1 a.2
 else
 if k.2.2.2.2.1 then E5 e.2.1 17 (iop .add .i64 1 b) c.1 d.1 a.1 a.2
 else
 if (!l.2.2.2.2.2.2.2) then E5 e.2.1 17 (iop .add .i64 1 b) c.1 d.1 a.1 a.2
 else
 if l.2.2.2.2.1 then E5 e.2.1 17 (iop .add .i64 1 b) c.1 d.1 a.1 a.2
 else
 if (cop .neq (iop .add .i64 1 g) (iop .add .i64 1 b)) then
 (g22 j.1 (iop .add .i64 1 b) a.2).bind fun h=>
 if (!h.1) then E5 e.2.1 8 (iop .add .i64 1 b) c.1 d.1 a.1 h.2
 else E5 e.2.1 0 (iop .add .i64 1 b) c.1 d.1 a.1 h.2
 else E5 e.2.1 0 (iop .add .i64 1 b) c.1 d.1 a.1 a.2
theorem ZiQ (k:Nat) (h:LL) (c:Int) (d:Int) (a:LL) (i:LL) (e:Bool) (f:Int) (g:LL):Zu1 (k+1) h c d a i e f g =
 (if e then
 if (cop .lss f (Xn h:Int)) then
 if (cop .lss f 80) then
 Zl h f [.int .i64,.int .i64,.int .i64,.int .i64,.bool,.str] fun (b:Int×Int×Int×Int×Bool×ByteArray)=>
 (g17 a i b.1 b.2.1 b.2.2.1 b.2.2.2.1 b.2.2.2.2.1 b.2.2.2.2.2 g).bind fun j=>
 Zu1 k h c d a i j.1 (iop .add .i64 f 1) j.2
 else Z5 c d a e g
 else Z5 c d a e g
 else Z5 c d a e g):=by kernel_rfl
theorem Zvl (b:Int) (c:LL) (d:Int) (e:Int) (f:LL):g5 b c d e f =
 ((g16 b f).bind fun a=>
 Zu1 Ju c d e a.1 a.2.1 a.2.2.1 0 a.2.2.2):=by kernel_rfl
end Go.Proofs.Ytpjnmgjphfnmmaa
