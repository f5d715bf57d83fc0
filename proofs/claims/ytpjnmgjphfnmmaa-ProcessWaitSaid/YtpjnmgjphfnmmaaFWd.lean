import Derived.Test.YtpjnmgjphfnmmaaFWc
open List renaming length→XT
set_option linter.unusedVariables false
set_option linter.unusedSimpArgs false
set_option linter.defProp false
namespace Go.Proofs.Ytpjnmgjphfnmmaa
open Go Go.AM
set_option maxRecDepth 100000
noncomputable def F11:Fn:=⟨70,[4,5,6],[(8,[(0,.c (.cel)),(1,.c (.int .i64)),(4,.box [.int .i64,.int .i64,.int .i64]),(7,.c (.cel)),(8,.c (.int .i64)),(26,.c (.slice 1)),(27,.c (.int .i64)),(28,.c (.int .i64)),(70,.sto)])],[],1,[],[],some 70,[22],[],Try.f11,([.c (.cel),.c (.int .i64)]++List.replicate 68 .dead++[.sto]),[.agg [.int .i64,.int .i64,.int .i64],.c (.bool),.c (.int .i64)],[(27,F27.S),(29,F29.S)]⟩
theorem Zt0:F11.S.Ok Try.prog 11:=F11.ok Try.func11 (by kernel_rfl) ⟨Zty,⟨ZtI,trivial⟩⟩
noncomputable def g11 (a:LL) (b:Int) (c:LL):Option (Int×Int×Int×Bool×Int×LL):=F11.S.g [.l a,.i b,.l c]
noncomputable def Zor (k:Nat) (a:LL) (b:Int) (c:Int) (d:Int) (e:Int) (f:LL) (g:Int) (h:LL) (j:Int) (m:Int) (n:LL):Option (Int×Int×Int×Bool×Int×LL):=F11.lp [2,1,3,1,2] 0 r0 k [.l a,.i b,.i c,.i d,.i e,.l f,.i g,.l h,.i j,.i m,.l n]
theorem ZjP (k:Nat) (d:LL) (f:Int) (l:Int) (m:Int) (n:Int) (e:LL) (h:Int) (i:LL) (j:Int) (g:Int) (a:LL):Zor (k+1) d f l m n e h i j g a =
 (if (cop .lss g j) then
 Jn i g [.int .i64] fun (b:Int)=>
 ZW ((Zf .pnn d 0 E0 [])≠[])<|
 ZW ((Zf .pnn d 0 E0 [])≠[])<|
 Jn (Zf (.get 1) a 0 (Zf (.padd 0) d 0 E0 []) []) 0 [.cel] fun (c:LL)=>
 ZW ((Zf .mchk a 0 c [])≠[])<|
 ZW ((Zf .pnn (Zf .mget a b c []) 0 E0 [])≠[])<|
 ZW ((Zf .pnn (Zf .mget a b c []) 0 E0 [])≠[])<|
 Jn (Zf (.get 1) a 0 (Zf (.padd 1) (Zf .mget a b c []) 0 E0 []) []) 0 [.int .i64] fun (p:Int)=>
 if (cop .neq p f) then
 Zor k d f l m n e h i j (iop .add .i64 g 1) a
 else
 ZW ((Zf .pnn (Zf .mget a b c []) 0 E0 [])≠[])<|
 ZW ((Zf .pnn (Zf .mget a b c []) 0 E0 [])≠[])<|
 Jn (Zf (.get 1) a 0 (Zf (.padd 4) (Zf .mget a b c []) 0 E0 []) []) 0 [.bool] fun (q:Bool)=>
 if q then
 ZW ((Zf .pnn d 0 E0 [])≠[])<|
 ZW ((Zf .pnn d 0 E0 [])≠[])<|
 Jn (Zf (.get 1) a 0 (Zf (.padd 0) d 0 E0 []) []) 0 [.cel] fun (o:LL)=>
 ZW ((Zf .mchk a 0 o [])≠[])<|
 ZW ((Zf .pnn (Zf .mget a b c []) 0 E0 [])≠[])<|
 ZW ((Zf .pnn (Zf .mget a b c []) 0 E0 [])≠[])<|
 Jn (Zf (.get 1) (Zf .mdel a b o []) 0 (Zf (.padd 5) (Zf .mget a b c []) 0 E0 []) []) 0 [.int .i64] fun (r:Int)=>
 some (f,b,r,true,0,(Zf .mdel a b o []))
 else
 Zor k d f l m n e (iop .add .i64 h 1) i j (iop .add .i64 g 1) a
 else
 if (cop .eql h 0) then
 some (0,0,0,false,2,a)
 else
 ZW ((Zf .pnn e 0 E0 [])≠[])<|
 ZW ((Zf .pnn e 0 E0 [])≠[])<|
 ZW ((Zf (.get 1) a 0 (Zf (.padd 6) e 0 E0 []) [])≠[])<|
 some (0,0,0,false,0,(Zf .set a 0 (Zf (.padd 6) e 0 E0 []) [AV.val (.bool true)]))):=by kernel_rfl
theorem Zsc (b:LL) (c:Int) (e:LL):g11 b c e =
 ((g27 b c e).bind fun a=>
 ZW ((Zf .pisr a.1 0 E0 [])≠[])<|
 if (cop .eql (XT (Zf .pnn a.1 0 E0 []):Int) 0) then
 some (0,0,0,false,17,a.2)
 else
 ZW ((Zf .pnn a.1 0 E0 [])≠[])<|
 ZW ((Zf .pnn a.1 0 E0 [])≠[])<|
 Jn (Zf (.get 1) a.2 0 (Zf (.padd 6) a.1 0 E0 []) []) 0 [.bool] fun (f:Bool)=>
 if f then
 some (0,0,0,false,4,a.2)
 else
 (g29 b a.2).bind fun d=>
 Zor ZeD b c 0 0 0 a.1 0 d.1 (XT d.1:Int) 0 d.2):=by kernel_rfl
end Go.Proofs.Ytpjnmgjphfnmmaa
