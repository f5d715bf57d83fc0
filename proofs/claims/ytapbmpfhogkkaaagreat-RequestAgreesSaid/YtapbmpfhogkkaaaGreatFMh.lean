/- Functions of the program, as what they compute. -/
import Derived.Test.YtapbmpfhogkkaaaGreatFMg
namespace Go.Proofs.YtapbmpfhogkkaaaGreat
open Go Go.AM
set_option linter.unusedVariables false
set_option maxRecDepth 100000
noncomputable def F3:Fn:=⟨155,[8],[(6,[(1,.c (.slice 10)),(2,.c (.int .i64)),(7,.box hs10),(9,.box [.slice 1,.int .i64,.int .i64,.slice 3,.slice 1]),(10,.ptr 25 0),(11,.c (.int .i64)),(25,.box hs7)]),(14,[(7,.box hs10),(9,.box [.slice 1,.int .i64,.int .i64,.slice 3,.slice 1]),(10,.ptr 25 0),(13,.c (.int .i64)),(14,.c (.own true 55)),(15,.c (.slice 13)),(16,.c (.int .i64)),(25,.box hs7)])],[],0,[],[(21,[(14,0)])],Tryz.f3,[.c (.slice 1),.c (.slice 10),.c (.int .i64),.agg hs10],[.c (.bool)],[(4,F4.S),(5,F5.S),(6,F6.S),(8,F8.S),(7,F7.S),(9,F9.S),(11,F11.S),(10,F10.S),(12,F12.S)]⟩
theorem ok3:F3.S.Ok Tryz.prog 3:=F3.ok Tryz.func3 (by kernel_rfl) ⟨ok4,⟨ok5,⟨ok6,⟨ok8,⟨ok7,⟨ok9,⟨Zqa,⟨ZpH,⟨Zqq,trivial⟩⟩⟩⟩⟩⟩⟩⟩⟩
noncomputable def g3 (a b:LL) (c d e f h j k m n o:Int):Option (Bool):=F3.S.g [.l a,.l b,.i c,.i d,.i e,.i f,.i h,.i j,.i k,.i m,.i n,.i o]
noncomputable def ZkR (k:Nat) (a b c d e f g h j:Int) (m:LL) (n o:Int) (p q:LL) (r:Int) (s t:LL) (u:Int) (v:LL) (w x:Int) (y z A C D E G:LL):Option (Bool):=F3.lp [4,1,6] 0 r0 k [.i a,.i b,.i c,.i d,.i e,.i f,.i g,.i h,.i j,.l m,.i n,.i o,.l p,.l q,.i r,.l s,.l t,.i u,.l v,.i w,.i x,.l y,.l z,.l A,.l C,.l D,.l E,.l G]
theorem Zlr (k:Nat) (x y z A C D E G H:Int) (j:LL) (J K:Int) (l L:LL) (d:Int) (g h:LL) (i:Int) (m:LL) (n o:Int) (p q r s t u v:LL):ZkR (k+1) x y z A C D E G H j J K l L d g h i m n o p q r s t u v =
 (if (cop .lss i (List.length h:Int)) then
 Zj h i hs3 fun (a:Qt13)=>
 if (cop .eql a.1 d) then
 Zj h i hs3 fun (b:Qt13)=>
 Zj h i hs3 fun (e:Qt13)=>
 Zi ((0:Int)≤b.2.1)<|
 Zi ((b.2.1:Int) < (List.length g:Int))<|
 Zi ((0:Int)≤b.2.1)<|
 Zi ((b.2.1:Int) < (List.length g:Int))<|
 ZkR k x y z A C D E G H j J K l L d (Zp g (Int.toNat b.2.1) 0 [AV.val (.int .i64 e.2.2.1),AV.val (.int .i64 e.2.2.2.1),AV.val (.int .i64 e.2.2.2.2.1),AV.slice false 3 e.2.2.2.2.2.1,AV.val (.int .i64 e.2.2.2.2.2.2.1),AV.val (.int .i64 e.2.2.2.2.2.2.2.1),AV.val (.int .i64 e.2.2.2.2.2.2.2.2.1),AV.val (.int .i64 e.2.2.2.2.2.2.2.2.2.1),AV.val (.int .i64 e.2.2.2.2.2.2.2.2.2.2.1),AV.val (.int .i64 e.2.2.2.2.2.2.2.2.2.2.2.1),AV.val (.bool (d4 (d8 e)))]) h (iop .add .i64 i 1) m n o p q r s t u v
 else
 ZkR k x y z A C D E G H j J K l L d g h (iop .add .i64 i 1) m n o p q r s t u v
 else
 (g8 j J K l L d x y z A C D E G H).bind fun a=>
 if (cop .gtr a.1 6) then
 Zj j d [.int .i64] fun (M:Int)=>
 (g11 m n o p q r s t u v).bind fun b=>
 (g10 d 100 M g l b.1 6 a.2.1 a.2.2.1 a.2.2.2.1 a.2.2.2.2.1 a.2.2.2.2.2.1 a.2.2.2.2.2.2.1 a.2.2.2.2.2.2.2.1 a.2.2.2.2.2.2.2.2.1 a.2.2.2.2.2.2.2.2.2.1 a.2.2.2.2.2.2.2.2.2.2.1 a.2.2.2.2.2.2.2.2.2.2.2).bind fun w=>
 (g7 b.2.1 b.2.2.1 b.2.2.2.1 b.2.2.2.2.1 b.2.2.2.2.2.1 b.2.2.2.2.2.2.1 b.2.2.2.2.2.2.2.1 b.2.2.2.2.2.2.2.2.1 b.2.2.2.2.2.2.2.2.2.1 b.2.2.2.2.2.2.2.2.2.2 d 100 6 a.2.1 a.2.2.1 a.2.2.2.1 a.2.2.2.2.1 a.2.2.2.2.2.1 a.2.2.2.2.2.2.1 a.2.2.2.2.2.2.2.1 a.2.2.2.2.2.2.2.2.1 a.2.2.2.2.2.2.2.2.2.1 a.2.2.2.2.2.2.2.2.2.2.1 a.2.2.2.2.2.2.2.2.2.2.2).bind fun f=>
 if (cop .neq (d4 (d8 (d16 w))).2 0) then
 if (cop .eql f.1 (d4 (d8 (d16 w))).2) then
 (g12).bind fun c=>
 some (c)
 else
 some (false)
 else
 if (cop .eql f.1 0) then
 (g12).bind fun c=>
 some (c)
 else
 if (cop .eql f.1 7) then
 (g12).bind fun c=>
 some (c)
 else
 if (cop .eql 6 4) then
 if (cop .eql f.1 3) then
 (g12).bind fun c=>
 some (c)
 else
 some (false)
 else
 some (false)
 else
 Zj j d [.int .i64] fun (M:Int)=>
 (g11 m n o p q r s t u v).bind fun b=>
 (g10 d 100 M g l b.1 a.1 a.2.1 a.2.2.1 a.2.2.2.1 a.2.2.2.2.1 a.2.2.2.2.2.1 a.2.2.2.2.2.2.1 a.2.2.2.2.2.2.2.1 a.2.2.2.2.2.2.2.2.1 a.2.2.2.2.2.2.2.2.2.1 a.2.2.2.2.2.2.2.2.2.2.1 a.2.2.2.2.2.2.2.2.2.2.2).bind fun w=>
 (g7 b.2.1 b.2.2.1 b.2.2.2.1 b.2.2.2.2.1 b.2.2.2.2.2.1 b.2.2.2.2.2.2.1 b.2.2.2.2.2.2.2.1 b.2.2.2.2.2.2.2.2.1 b.2.2.2.2.2.2.2.2.2.1 b.2.2.2.2.2.2.2.2.2.2 d 100 a.1 a.2.1 a.2.2.1 a.2.2.2.1 a.2.2.2.2.1 a.2.2.2.2.2.1 a.2.2.2.2.2.2.1 a.2.2.2.2.2.2.2.1 a.2.2.2.2.2.2.2.2.1 a.2.2.2.2.2.2.2.2.2.1 a.2.2.2.2.2.2.2.2.2.2.1 a.2.2.2.2.2.2.2.2.2.2.2).bind fun f=>
 if (cop .neq (d4 (d8 (d16 w))).2 0) then
 if (cop .eql f.1 (d4 (d8 (d16 w))).2) then
 (g12).bind fun c=>
 some (c)
 else
 some (false)
 else
 if (cop .eql f.1 0) then
 (g12).bind fun c=>
 some (c)
 else
 if (cop .eql f.1 7) then
 (g12).bind fun c=>
 some (c)
 else
 if (cop .eql a.1 4) then
 if (cop .eql f.1 3) then
 (g12).bind fun c=>
 some (c)
 else
 some (false)
 else
 some (false)):=by kernel_rfl
noncomputable def ZoN (k:Nat) (a:LL) (b c d e f g h j m n:Int) (o:LL) (p q:Int) (r s:LL) (t:Int) (u:LL) (v w:Int) (x y z A C D E:LL):Option (Bool):=F3.lp [3] 0 r0 k [.l a,.i b,.i c,.i d,.i e,.i f,.i g,.i h,.i j,.i m,.i n,.l o,.i p,.i q,.l r,.l s,.i t,.l u,.i v,.i w,.l x,.l y,.l z,.l A,.l C,.l D,.l E]
theorem ZlV (k:Nat) (h:LL) (n o p q r s t u v w:Int) (f:LL) (i b:Int) (j l:LL) (g:Int) (x:LL) (y z:Int) (A C D E G H J:LL):ZoN (k+1) h n o p q r s t u v w f i b j l g x y z A C D E G H J =
 (if (cop .lss g (List.length h:Int)) then
 if (cop .lss g 40) then
 Zj h g hs8 fun (m:Int×Int×Int×Int×Int×Int×Int×Int×Int×Int)=>
 (g6 m.1 (List.length f:Int)).bind fun K=>
 Zj h g hs8 fun (e:Int×Int×Int×Int×Int×Int×Int×Int×Int×Int)=>
 (g8 f i b j l K e.2.1 e.2.2.1 e.2.2.2.1 e.2.2.2.2.1 e.2.2.2.2.2.1 e.2.2.2.2.2.2.1 e.2.2.2.2.2.2.2.1 e.2.2.2.2.2.2.2.2.1 e.2.2.2.2.2.2.2.2.2).bind fun c=>
 (g7 x y z A C D E G H J K (iop .add .i64 g 1) c.1 c.2.1 c.2.2.1 c.2.2.2.1 c.2.2.2.2.1 c.2.2.2.2.2.1 c.2.2.2.2.2.2.1 c.2.2.2.2.2.2.2.1 c.2.2.2.2.2.2.2.2.1 c.2.2.2.2.2.2.2.2.2.1 c.2.2.2.2.2.2.2.2.2.2.1 c.2.2.2.2.2.2.2.2.2.2.2).bind fun d=>
 ZoN k h n o p q r s t u v w f i b j l (iop .add .i64 g 1) d.2.2.2.2.2.2.2.2.2.1 d.2.2.2.2.2.2.2.2.2.2.1 d.2.2.2.2.2.2.2.2.2.2.2.1 (d4 (d8 d)).1 (d4 (d8 d)).2.1 (d2 (d4 (d8 d))).1 (d2 (d4 (d8 d))).2.1 (d16 d).1 (d16 d).2.1 (d2 (d16 d))
 else
 (g6 n (List.length f:Int)).bind fun m=>
 Zi (ZaB b 136)<|
 Zi ((b:Int)≤b)<|
 Zi ((b:Int)≤b)<|
 (g9 x y z A C D E G H J).bind fun a=>
 ZkR ZZ o p q r s t u v w f i b j l m (List.replicate (Int.toNat b) [AV.val (.int .i64 0),AV.val (.int .i64 0),AV.val (.int .i64 0),AV.slice false 3 E0,AV.val (.int .i64 0),AV.val (.int .i64 0),AV.val (.int .i64 0),AV.val (.int .i64 0),AV.val (.int .i64 0),AV.val (.int .i64 0),AV.val (.bool false),AV.val (.int .i64 0),AV.val (.int .i64 0),AV.val (.int .i64 0),AV.val (.int .i64 0)]) a.1 0 a.2.1 a.2.2.1 a.2.2.2.1 a.2.2.2.2.1 a.2.2.2.2.2.1 a.2.2.2.2.2.2.1 a.2.2.2.2.2.2.2.1 a.2.2.2.2.2.2.2.2.1 a.2.2.2.2.2.2.2.2.2.1 a.2.2.2.2.2.2.2.2.2.2
 else
 (g6 n (List.length f:Int)).bind fun m=>
 Zi (ZaB b 136)<|
 Zi ((b:Int)≤b)<|
 Zi ((b:Int)≤b)<|
 (g9 x y z A C D E G H J).bind fun a=>
 ZkR ZZ o p q r s t u v w f i b j l m (List.replicate (Int.toNat b) [AV.val (.int .i64 0),AV.val (.int .i64 0),AV.val (.int .i64 0),AV.slice false 3 E0,AV.val (.int .i64 0),AV.val (.int .i64 0),AV.val (.int .i64 0),AV.val (.int .i64 0),AV.val (.int .i64 0),AV.val (.int .i64 0),AV.val (.bool false),AV.val (.int .i64 0),AV.val (.int .i64 0),AV.val (.int .i64 0),AV.val (.int .i64 0)]) a.1 0 a.2.1 a.2.2.1 a.2.2.2.1 a.2.2.2.2.1 a.2.2.2.2.2.1 a.2.2.2.2.2.2.1 a.2.2.2.2.2.2.2.1 a.2.2.2.2.2.2.2.2.1 a.2.2.2.2.2.2.2.2.2.1 a.2.2.2.2.2.2.2.2.2.2):=by kernel_rfl
theorem Zo8 (c d:LL) (e f g h i j k l m n:Int):g3 c d e f g h i j k l m n =
 ((g4 c).bind fun a=>
 (g5 a.1 a.2.1 a.2.2.1 a.2.2.2.1 a.2.2.2.2).bind fun b=>
 ZoN ZZ d e f g h i j k l m n a.1 a.2.1 a.2.2.1 a.2.2.2.1 a.2.2.2.2 0 b.1 b.2.1 b.2.2.1 b.2.2.2.1 b.2.2.2.2.1 b.2.2.2.2.2.1 b.2.2.2.2.2.2.1 b.2.2.2.2.2.2.2.1 b.2.2.2.2.2.2.2.2.1 b.2.2.2.2.2.2.2.2.2):=by kernel_rfl
end Go.Proofs.YtapbmpfhogkkaaaGreat
