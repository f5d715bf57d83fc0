import Derived.Test.YtpjnmgjphfnmmaaGW
open Option renaming some→Xa
open Bool renaming false→Xe
open List renaming replicate→Xg
set_option linter.unusedVariables false
set_option linter.unusedSimpArgs false
set_option linter.defProp false
namespace Go.Proofs.Ytpjnmgjphfnmmaa
open Go Go.AM
set_option maxRecDepth 100000
noncomputable def F27:Fn:=⟨22,[4],[],[],1,[],[],Xa 22,[22],[],Try.f27,([.c (.cel),.c (.int .i64)]++Xg 20 .dead++[.sto]),[.c (.cel)],[]⟩
theorem Zua:F27.S.Ok Try.prog 27:=F27.ok Try.func27 (by kernel_rfl) trivial
noncomputable def g27 (a:LL) (b:Int) (c:LL):Option (LL×LL):=F27.S.g [.l a,.i b,.l c]
theorem Zu7 (d:LL) (b:Int) (a:LL):g27 d b a =
 (Zf ((Zc .pnn d 0 E0 [])≠[])<|
 Zf ((Zc .pnn d 0 E0 [])≠[])<|
 Zk (Zc (.get 1) a 0 (Zc (.padd 0) d 0 E0 []) []) 0 [.cel] fun (c:LL)=>
 Zf ((Zc .mchk a 0 c [])≠[])<|
 Zf ((Zc .pisr (Zc .mget a b c []) 0 E0 [])≠[])<|
 if (cop .neq (List.length (Zc .pnn (Zc .mget a b c []) 0 E0 []):Int) 0) then
 Zf ((Zc .pnn (Zc .mget a b c []) 0 E0 [])≠[])<|
 Zf ((Zc .pnn (Zc .mget a b c []) 0 E0 [])≠[])<|
 Zk (Zc (.get 1) a 0 (Zc (.padd 4) (Zc .mget a b c []) 0 E0 []) []) 0 [.bool] fun (e:Bool)=>
 if (!e) then
 Xa ((Zc .mget a b c []),a)
 else
 Xa ((Zc (.pnil 0) E0 0 E0 []),a)
 else
 Xa ((Zc (.pnil 0) E0 0 E0 []),a)):=by kernel_rfl
noncomputable def F53:Fn:=⟨8,[2],[],[],1,[],[],Xa 8,[],[],Try.f53,([.c (.cel)]++Xg 7 .dead++[.sto]),[.c (.own Xe 3)],[]⟩
theorem Zxh:F53.S.Ok Try.prog 53:=F53.ok Try.func53 (by kernel_rfl) trivial
noncomputable def g53 (a:LL) (b:LL):Option (LL×LL):=F53.S.g [.l a,.l b]
theorem ZvJ (a:LL) (b:LL):g53 a b =
 (Zf ((Zc .pisl a 0 E0 [])≠[])<|
 Zs4 (Zc .plen a 0 E0 []) fun c=>
 if c then
 Xa (E0,b)
 else
 Zf ((Zc (.vchk 3 1) b 0 a [])≠[])<|
 Zf (Jp E0 (Zc (.view 1) b 0 a []) 8)<|
 Xa ((E0++(Zc (.view 1) b 0 a [])),b)):=by kernel_rfl
noncomputable def F31:Fn:=⟨14,[2],[],[],1,[],[],Xa 14,[22],[],Try.f31,([.c (.cel)]++Xg 13 .dead++[.sto]),[.agg [.int .i64,.int .i64,.str,.slice 1,.bool,.int .i64,.bool]],[(53,F53.S)]⟩
theorem ZxO:F31.S.Ok Try.prog 31:=F31.ok Try.func31 (by kernel_rfl) ⟨Zxh,trivial⟩
noncomputable def g31 (a:LL) (b:LL):Option (Int×Int×ByteArray×LL×Bool×Int×Bool×LL):=F31.S.g [.l a,.l b]
theorem Zun (a:LL) (c:LL):g31 a c =
 (Zf ((Zc .pnn a 0 E0 [])≠[])<|
 Zk (Zc (.get 7) c 0 a []) 0 [.int .i64,.int .i64,.str,.cel,.bool,.int .i64,.bool] fun (b:Int×Int×ByteArray×LL×Bool×Int×Bool)=>
 Zf ((Zc .pnn a 0 E0 [])≠[])<|
 Zf ((Zc .pnn a 0 E0 [])≠[])<|
 Zk (Zc (.get 1) c 0 (Zc (.padd 3) a 0 E0 []) []) 0 [.cel] fun (e:LL)=>
 (g53 e c).bind fun d=>
 Xa (b.1,b.2.1,b.2.2.1,d.1,b.2.2.2.2.1,b.2.2.2.2.2.1,b.2.2.2.2.2.2,d.2)):=by kernel_rfl
noncomputable def F26:Fn:=⟨9,[2],[],[],0,[],[],none,[],[],Try.f26,[.c (.int .i64)],[.c (.bool)],[]⟩
theorem Zwd:F26.S.Ok Try.prog 26:=F26.ok Try.func26 (by kernel_rfl) trivial
noncomputable def g26 (a:Int):Option (Bool):=F26.S.g [.i a]
theorem ZvW (a:Int):g26 a =
 (if (cop .geq a 0) then
 Xa ((cop .lss a 32))
 else
 Xa (Xe)):=by kernel_rfl
noncomputable def F8:Fn:=⟨17,[2,3],[],[],1,[11,16,9],[],Xa 17,[22],[],Try.f8,([.c (.int .i64)]++Xg 16 .dead++[.sto]),[.c (.cel),.c (.int .i64)],[(26,F26.S)]⟩
theorem ok8:F8.S.Ok Try.prog 8:=F8.ok Try.func8 (by kernel_rfl) ⟨Zwd,trivial⟩
noncomputable def g8 (a:Int) (b:LL):Option (LL×Int×LL):=F8.S.g [.i a,.l b]
theorem ZwD (b:Int) (a:LL):g8 b a =
 ((g26 b).bind fun c=>
 if (!c) then
 Xa ((Zc (.pnil 0) E0 0 E0 []),1,a)
 else
 Zf ((Zc .mchk (Zc .newm ((a++[[AV.val (.int .i64 b)]])++[[AV.val (.int .i64 1),AV.val (.int .i64 0),AV.val (.string (⟨#[105,110,105,116]⟩:ByteArray)),Zd (Zc (.parr 3) a 1 E0 []),AV.val (.bool Xe),AV.val (.int .i64 0),AV.val (.bool Xe)]]) 0 E0 []) 0 (Zc .pmap ((a++[[AV.val (.int .i64 b)]])++[[AV.val (.int .i64 1),AV.val (.int .i64 0),AV.val (.string (⟨#[105,110,105,116]⟩:ByteArray)),Zd (Zc (.parr 3) a 1 E0 []),AV.val (.bool Xe),AV.val (.int .i64 0),AV.val (.bool Xe)]]) 0 E0 []) [])≠[])<|
 Zf ((Zc .pis0 (Zc .pnew (a++[[AV.val (.int .i64 b)]]) 0 E0 []) 0 E0 [])≠[])<|
 Xa ((Zc .pnew (Zc .mput (Zc .newm ((a++[[AV.val (.int .i64 b)]])++[[AV.val (.int .i64 1),AV.val (.int .i64 0),AV.val (.string (⟨#[105,110,105,116]⟩:ByteArray)),Zd (Zc (.parr 3) a 1 E0 []),AV.val (.bool Xe),AV.val (.int .i64 0),AV.val (.bool Xe)]]) 0 E0 []) 1 (Zc .pmap ((a++[[AV.val (.int .i64 b)]])++[[AV.val (.int .i64 1),AV.val (.int .i64 0),AV.val (.string (⟨#[105,110,105,116]⟩:ByteArray)),Zd (Zc (.parr 3) a 1 E0 []),AV.val (.bool Xe),AV.val (.int .i64 0),AV.val (.bool Xe)]]) 0 E0 []) [Zd (Zc .pnew (a++[[AV.val (.int .i64 b)]]) 0 E0 [])]) 0 E0 []),0,((Zc .mput (Zc .newm ((a++[[AV.val (.int .i64 b)]])++[[AV.val (.int .i64 1),AV.val (.int .i64 0),AV.val (.string (⟨#[105,110,105,116]⟩:ByteArray)),Zd (Zc (.parr 3) a 1 E0 []),AV.val (.bool Xe),AV.val (.int .i64 0),AV.val (.bool Xe)]]) 0 E0 []) 1 (Zc .pmap ((a++[[AV.val (.int .i64 b)]])++[[AV.val (.int .i64 1),AV.val (.int .i64 0),AV.val (.string (⟨#[105,110,105,116]⟩:ByteArray)),Zd (Zc (.parr 3) a 1 E0 []),AV.val (.bool Xe),AV.val (.int .i64 0),AV.val (.bool Xe)]]) 0 E0 []) [Zd (Zc .pnew (a++[[AV.val (.int .i64 b)]]) 0 E0 [])])++[[Zd (Zc .pmap ((a++[[AV.val (.int .i64 b)]])++[[AV.val (.int .i64 1),AV.val (.int .i64 0),AV.val (.string (⟨#[105,110,105,116]⟩:ByteArray)),Zd (Zc (.parr 3) a 1 E0 []),AV.val (.bool Xe),AV.val (.int .i64 0),AV.val (.bool Xe)]]) 0 E0 []),AV.val (.int .i64 1)]]))):=by kernel_rfl
end Go.Proofs.Ytpjnmgjphfnmmaa
