import Derived.Test.YtpjnmgjphfnmmaaFT
open Option renaming some→Xa
open Bool renaming false→Xc
open List renaming length→Xn
set_option linter.unusedVariables false
set_option linter.unusedSimpArgs false
set_option linter.defProp false
namespace Go.Proofs.Ytpjnmgjphfnmmaa
open Go Go.AM
set_option maxRecDepth 100000
noncomputable def F18:Fn:=⟨157,[2],[(2,[(0,.c (.slice 7)),(3,.c (.int .i64))]),(12,[(0,.c (.slice 7)),(3,.c (.int .i64)),(4,.box [.int .i64,.int .i64,.str,.slice 1,.bool,.int .i64,.bool]),(7,.c (.bool)),(8,.c (.bool)),(9,.c (.int .i64))])],[],0,[],[],none,[],[],Try.f18,[.c (.slice 7)],[.c (.bool)],[(20,F20.S)]⟩
theorem Zv9:F18.S.Ok Try.prog 18:=F18.ok Try.func18 (by kernel_rfl) ⟨Zwc,trivial⟩
noncomputable def g18 (a:LL):Option (Bool):=F18.S.g [.l a]
noncomputable def ZhZ (rec0:List V→Option (Bool)) (k:Nat) (a:LL) (c:Int) (d:Int) (e:Int) (f:ByteArray) (g:LL) (h:Bool) (j:Int) (m:Bool) (n:Bool) (o:Bool) (p:Int):Option (Bool):=F18.lp [2,3,0,1,1,0,1,1,0,0,1,0,1,1,0,1,1,0] 1 (ZqZ r0 0 rec0) k [.l a,.i c,.i d,.i e,.s f,.l g,.b h,.i j,.b m,.b n,.b o,.i p]
theorem ZkV (rec0:List V→Option (Bool)) (k:Nat) (a:LL) (c:Int) (d:Int) (f:Int) (g:ByteArray) (h:LL) (j:Bool) (m:Int) (e:Bool) (o:Bool) (n:Bool) (b:Int):ZhZ rec0 (k+1) a c d f g h j m e o n b =
 (if (cop .lss b (Xn a:Int)) then
 Zk a b [.int .i64,.int .i64,.str,.slice 1,.bool,.int .i64,.bool] fun (q:Int×Int×ByteArray×LL×Bool×Int×Bool)=>
 if (cop .eql q.2.1 d) then
 if o then
 if n then
 ZhZ rec0 k a c d f g h j m e true true (iop .add .i64 b 1)
 else
 Zk a b [.int .i64,.int .i64,.str,.slice 1,.bool,.int .i64,.bool] fun (p:Int×Int×ByteArray×LL×Bool×Int×Bool)=>
 ZhZ rec0 k a c d f g h j m e true p.2.2.2.2.1 (iop .add .i64 b 1)
 else
 Zk a b [.int .i64,.int .i64,.str,.slice 1,.bool,.int .i64,.bool] fun (p:Int×Int×ByteArray×LL×Bool×Int×Bool)=>
 if n then
 ZhZ rec0 k a c d f g h j m e (!p.2.2.2.2.1) true (iop .add .i64 b 1)
 else
 Zk a b [.int .i64,.int .i64,.str,.slice 1,.bool,.int .i64,.bool] fun (r:Int×Int×ByteArray×LL×Bool×Int×Bool)=>
 ZhZ rec0 k a c d f g h j m e (!p.2.2.2.2.1) r.2.2.2.2.1 (iop .add .i64 b 1)
 else
 ZhZ rec0 k a c d f g h j m e o n (iop .add .i64 b 1)
 else
 if e then
 if (!o) then
 Xa (Xc)
 else
 if n then
 Xa (Xc)
 else
 rec0 [.l a,.i (iop .add .i64 c 1)]
 else
 rec0 [.l a,.i (iop .add .i64 c 1)]):=by kernel_rfl
noncomputable def Zsb (k:Nat) (a:LL) (b:Int):Option (Bool):=F18.lp [0] 0 r0 k [.l a,.i b]
abbrev R7:=Int×Int×ByteArray×LL×Bool×Int×Bool
noncomputable def X18 (k:Nat) (a:LL) (b:Int) (r2:R7):Option Bool:=
 ZhZ (F18.lp [0] 0 r0 k) Jr a b r2.1 r2.2.1 r2.2.2.1 r2.2.2.2.1 r2.2.2.2.2.1 r2.2.2.2.2.2.1 r2.2.2.2.2.2.2 Xc Xc 0
noncomputable def C18 (k:Nat) (a:LL) (b:Int) (r2:R7):Option Bool:=
 if (!r2.2.2.2.2.1) then
 if (cop .eql (Xn r2.2.2.2.1:Int) 0) then Xa (Xc)
 else
 if (cop .neq r2.2.2.2.2.2.1 0) then Xa (Xc)
 else X18 k a b r2
 else X18 k a b r2
noncomputable def B18 (k:Nat) (a:LL) (b:Int) (r2:R7):Option Bool:=
 if r2.2.2.2.2.1 then
 if (cop .gtr (Xn r2.2.2.2.1:Int) 0) then Xa (Xc)
 else
 if r2.2.2.2.2.2.2 then Xa (Xc)
 else C18 k a b r2
 else C18 k a b r2
noncomputable def A18 (k:Nat) (a:LL) (b:Int) (r2:R7) (r9:Int×Int×ByteArray×LL×Bool×Int×Bool×Bool):Option Bool:=
 if (cop .neq r2.1 1) then
 if r9.2.2.2.2.1 then
 if (cop .neq r9.1 1) then Xa (Xc)
 else B18 k a b r2
 else B18 k a b r2
 else B18 k a b r2
noncomputable def D18 (k:Nat) (a:LL) (b:Int) (r2:R7) (r9:Int×Int×ByteArray×LL×Bool×Int×Bool×Bool):Option Bool:=
 if (!((cop .eql r2.1 1) == (cop .eql r2.2.1 0))) then Xa (Xc)
 else
 if (cop .neq r2.1 1) then
 if (!r9.2.2.2.2.2.2.2) then Xa (Xc)
 else
 if (cop .geq r2.2.1 r2.1) then Xa (Xc)
 else A18 k a b r2 r9
 else A18 k a b r2 r9
theorem Zj9 (k:Nat) (a:LL) (b:Int):Zsb (k+1) a b =
 (if (cop .lss b (Xn a:Int)) then
 Zk a b [.int .i64,.int .i64,.str,.slice 1,.bool,.int .i64,.bool] fun (c:R7)=>
 (g20 a c.2.1).bind fun d=>
 if (cop .gtr b 0) then
 Zk a (iop .sub .i64 b 1) [.int .i64,.int .i64,.str,.slice 1,.bool,.int .i64,.bool] fun (e:R7)=>
 if (cop .leq c.1 e.1) then Xa (Xc)
 else D18 k a b c d
 else D18 k a b c d
 else
 if (cop .geq (Xn a:Int) 1) then
 Zk a 0 [.int .i64,.int .i64,.str,.slice 1,.bool,.int .i64,.bool] fun (c:R7)=>
 Xa ((cop .eql c.1 1))
 else
 Xa (Xc)):=by kernel_rfl
theorem ZtK (a:LL):g18 a =
 (Zsb Jr a 0):=by kernel_rfl
noncomputable def F4:Fn:=⟨44,[4],[(3,[(1,.c (.slice 6)),(5,.c (.cel)),(6,.c (.cel)),(7,.c (.bool)),(8,.c (.int .i64)),(44,.sto)])],[],1,[],[],Xa 44,[],[],Try.f4,([.c (.int .i64),.c (.slice 6)]++List.replicate 42 .dead++[.sto]),[.c (.bool)],[(16,F16.S),(17,F17.S),(14,F14.S),(18,F18.S),(15,F15.S)]⟩
theorem ok4:F4.S.Ok Try.prog 4:=F4.ok Try.func4 (by kernel_rfl) ⟨Zwz,⟨Zwo,⟨ZvR,⟨Zv9,⟨ZwQ,trivial⟩⟩⟩⟩⟩
noncomputable def g4 (a:Int) (b:LL) (c:LL):Option (Bool×LL):=F4.S.g [.i a,.l b,.l c]
noncomputable def ZtA (k:Nat) (a:LL) (c:LL) (d:LL) (e:Bool) (f:Int) (g:LL):Option (Bool×LL):=F4.lp [2] 0 r0 k [.l a,.l c,.l d,.b e,.i f,.l g]
theorem ZiJ (k:Nat) (d:LL) (e:LL) (g:LL) (f:Bool) (c:Int) (b:LL):ZtA (k+1) d e g f c b =
 (if f then
 if (cop .lss c (Xn d:Int)) then
 if (cop .lss c 100) then
 Zk d c [.int .i64,.int .i64,.int .i64,.int .i64,.bool,.str] fun (a:Int×Int×Int×Int×Bool×ByteArray)=>
 (g17 e g a.1 a.2.1 a.2.2.1 a.2.2.2.1 a.2.2.2.2.1 a.2.2.2.2.2 b).bind fun h=>
 if h.1 then
 (g14 e h.2).bind fun i=>
 (g18 i.1).bind fun j=>
 ZtA k d e g j (iop .add .i64 c 1) i.2
 else
 ZtA k d e g Xc (iop .add .i64 c 1) h.2
 else
 if f then
 (g15 b).bind fun a=>
 Xa (a.1,a.2)
 else
 Xa (Xc,b)
 else
 if f then
 (g15 b).bind fun a=>
 Xa (a.1,a.2)
 else
 Xa (Xc,b)
 else
 if f then
 (g15 b).bind fun a=>
 Xa (a.1,a.2)
 else
 Xa (Xc,b)):=by kernel_rfl
theorem Zvo (b:Int) (c:LL) (d:LL):g4 b c d =
 ((g16 b d).bind fun a=>
 ZtA Jr c a.1 a.2.1 a.2.2.1 0 a.2.2.2):=by kernel_rfl
end Go.Proofs.Ytpjnmgjphfnmmaa
