/- Functions of the program, as what they compute. -/
import Derived.Test.YtljejgmcgddppaaGreatF23a
namespace Go.Proofs.YtljejgmcgddppaaGreat
open Go Go.AM
set_option linter.unusedVariables false
set_option maxRecDepth 100000
noncomputable def F89:Fn:=⟨9,[2],[],[],0,[],[],Tryz.f89,[.c (.int .i64)],[.c (.bool)],[]⟩
noncomputable def g89 (x0:Int):Option (Bool):=F89.S.g [.i x0]
theorem Zst (x0:Int):g89 x0 =
 (if (cop .geq x0 0)=true then
 some ((cop .leq x0 1073741824))
 else
 some (false)):=by kernel_rfl
noncomputable def F90:Fn:=⟨9,[2],[],[],0,[],[],Tryz.f90,[.c (.int .i64)],[.c (.bool)],[]⟩
noncomputable def g90 (x0:Int):Option (Bool):=F90.S.g [.i x0]
theorem Zu2 (x0:Int):g90 x0 =
 (if (cop .geq x0 0)=true then
 some ((cop .lss x0 32))
 else
 some (false)):=by kernel_rfl
noncomputable def F88:Fn:=⟨31,[2],[],[],0,[],[],Tryz.f88,[.agg [.int .i64,.int .i64,.int .i64]],[.c (.bool)],[]⟩
theorem ZyD:F88.S.Ok Tryz.prog 88:=F88.ok Tryz.func88 (by kernel_rfl) trivial
noncomputable def g88 (x0 x1 x2:Int):Option (Bool):=F88.S.g [.i x0,.i x1,.i x2]
theorem ZtK (x0 x1 x2:Int):g88 x0 x1 x2 =
 (if (cop .geq x0 0)=true then
 if (cop .lss x0 32)=true then
 if (cop .geq x1 1)=true then
 if (cop .leq x1 1073741824)=true then
 if (cop .geq x2 0)=true then
 some ((cop .lss x2 8))
 else
 some (false)
 else
 some (false)
 else
 some (false)
 else
 some (false)
 else
 some (false)):=by kernel_rfl
noncomputable def F92:Fn:=⟨10,[2],[],[],0,[],[],Tryz.f92,[.agg [.int .i64,.int .i64,.int .i64]],[.c (.bool)],[(88,F88.S)]⟩
noncomputable def g92 (x0 x1 x2:Int):Option (Bool):=F92.S.g [.i x0,.i x1,.i x2]
theorem Zte (x0 x1 x2:Int):g92 x0 x1 x2 =
 ((g88 x0 x1 x2).bind fun (r3:Bool)=>
 if r3=true then
 some ((cop .eql x2 0))
 else
 some (false)):=by kernel_rfl
noncomputable def Zss:Fn:=⟨9,[2],[],[],0,[],[],Tryz.f100,[.c (.int .i64)],[.c (.bool)],[]⟩
noncomputable def Zre (x0:Int):Option (Bool):=Zss.S.g [.i x0]
theorem ZrH (x0:Int):Zre x0 =
 (if (cop .geq x0 0)=true then
 some ((cop .lss x0 16))
 else
 some (false)):=by kernel_rfl
noncomputable def F46:Fn:=⟨26,[4],[(4,[(0,.c (.slice 3)),(1,.c (.slice 3)),(5,.c (.int .i64))])],[],0,[],[],Tryz.f46,[.c (.slice 3),.c (.slice 3)],[.c (.bool)],[]⟩
theorem Zzt:F46.S.Ok Tryz.prog 46:=F46.ok Tryz.func46 (by kernel_rfl) trivial
noncomputable def g46 (x0 x1:LL):Option (Bool):=F46.S.g [.l x0,.l x1]
noncomputable def ZoL (k:Nat) (x0 x1:LL) (x2:Int):Option (Bool):=F46.lp [1,0] 0 r0 k [.l x0,.l x1,.i x2]
theorem ZjM (k:Nat) (x0 x1:LL) (x2:Int):ZoL (k+1) x0 x1 x2 =
 (if (cop .lss x2 (List.length x0:Int))=true then
 Zi x0 x2 [.int .i64,.int .i64,.int .i64] fun (r3:Int×Int×Int)=>
 Zi x1 x2 [.int .i64,.int .i64,.int .i64] fun (r6:Int×Int×Int)=>
 if (!((cop .eql r3.1 r6.1)&&((cop .eql r3.2.1 r6.2.1)&&((cop .eql r3.2.2 r6.2.2)&&true))))=true then
 some (false)
 else
 ZoL k x0 x1 (iop .add .i64 x2 1)
 else
 some (true)):=by kernel_rfl
theorem Ztg (x0 x1:LL):g46 x0 x1 =
 (if (cop .neq (List.length x0:Int) (List.length x1:Int))=true then
 some (false)
 else
 ZoL Zx x0 x1 0):=by kernel_rfl
noncomputable def F19:Fn:=⟨24,[4],[],[],0,[],[],Tryz.f19,[.agg hs8,.agg hs8],[.c (.bool)],[(46,F46.S)]⟩
theorem Zzh:F19.S.Ok Tryz.prog 19:=F19.ok Tryz.func19 (by kernel_rfl) ⟨Zzt,trivial⟩
noncomputable def g19 (x0 x1 x2:Int) (x3:LL) (x4 x5 x6 x7 x8 x9:Int) (x10:Bool) (x11 x12 x13:Int) (x14:LL) (x15 x16 x17 x18 x19 x20:Int) (x21:Bool):Option (Bool):=F19.S.g [.i x0,.i x1,.i x2,.l x3,.i x4,.i x5,.i x6,.i x7,.i x8,.i x9,.b x10,.i x11,.i x12,.i x13,.l x14,.i x15,.i x16,.i x17,.i x18,.i x19,.i x20,.b x21]
theorem Ztd (x0 x1 x2:Int) (x3:LL) (x4 x5 x6 x7 x8 x9:Int) (x10:Bool) (x11 x12 x13:Int) (x14:LL) (x15 x16 x17 x18 x19 x20:Int) (x21:Bool):g19 x0 x1 x2 x3 x4 x5 x6 x7 x8 x9 x10 x11 x12 x13 x14 x15 x16 x17 x18 x19 x20 x21 =
 (if ((cop .eql x0 x11)&&((cop .eql x1 x12)&&((cop .eql x2 x13)&&true)))=true then
 if ((cop .eql x4 x15)&&((cop .eql x5 x16)&&((cop .eql x6 x17)&&((cop .eql x7 x18)&&((cop .eql x8 x19)&&((cop .eql x9 x20)&&((x10 == x21)&&true)))))))=true then
 (g46 x3 x14).bind fun (r22:Bool)=>
 some (r22)
 else
 some (false)
 else
 some (false)):=by kernel_rfl
noncomputable def ZvK:Fn:=⟨12,[2],[],[],0,[],[],Tryz.f143,[.c (.int .i64)],[.c (.int .i64)],[]⟩
theorem ZwX:ZvK.S.Ok Tryz.prog 143:=ZvK.ok Tryz.func143 (by kernel_rfl) trivial
noncomputable def ZxT (x0:Int):Option (Int):=ZvK.S.g [.i x0]
theorem ZqD (x0:Int):ZxT x0 =
 (if (cop .eql x0 3)=true then
 some (12)
 else
 if (cop .eql x0 4)=true then
 some (6)
 else
 if (cop .eql x0 5)=true then
 some (10)
 else
 if (cop .eql x0 6)=true then
 some (16)
 else
 some (0)):=by kernel_rfl
noncomputable def F85:Fn:=⟨35,[4],[],[],0,[],[],Tryz.f85,[.c (.int .i64),.c (.int .i64)],[.c (.bool)],[(143,ZvK.S)]⟩
theorem Zy1:F85.S.Ok Tryz.prog 85:=F85.ok Tryz.func85 (by kernel_rfl) ⟨ZwX,trivial⟩
noncomputable def g85 (x0 x1:Int):Option (Bool):=F85.S.g [.i x0,.i x1]
theorem ZuS (x0 x1:Int):g85 x0 x1 =
 (if (cop .eql x0 1)=true then
 if (cop .geq x1 6)=true then
 some ((cop .leq x1 40))
 else
 some (false)
 else
 if (cop .eql x0 2)=true then
 if (cop .geq x1 12)=true then
 some ((cop .leq x1 40))
 else
 some (false)
 else
 if (cop .geq x0 3)=true then
 if (cop .leq x0 6)=true then
 (ZxT x0).bind fun (r2:Int)=>
 some ((cop .eql x1 r2))
 else
 some (false)
 else
 some (false)):=by kernel_rfl
noncomputable def F81:Fn:=⟨8,[2],[],[],0,[],[],Tryz.f81,[.agg hs13],[.agg [.int .i64,.int .i64]],[]⟩
theorem Zyu:F81.S.Ok Tryz.prog 81:=F81.ok Tryz.func81 (by kernel_rfl) trivial
noncomputable def g81 (x0 x1 x2 x3 x4 x5:Int) (x6:Bool):Option (Int×Int):=F81.S.g [.i x0,.i x1,.i x2,.i x3,.i x4,.i x5,.b x6]
theorem ZsC (x0 x1 x2 x3 x4 x5:Int) (x6:Bool):g81 x0 x1 x2 x3 x4 x5 x6 =
 (some (x1,x2)):=by kernel_rfl
noncomputable def Zqa:Fn:=⟨38,[2],[],[],0,[],[],Tryz.f139,[.agg [.int .i64,.int .i64]],[.c (.bool)],[]⟩
theorem ZoW:Zqa.S.Ok Tryz.prog 139:=Zqa.ok Tryz.func139 (by kernel_rfl) trivial
noncomputable def ZpG (x0 x1:Int):Option (Bool):=Zqa.S.g [.i x0,.i x1]
theorem ZpX (x0 x1:Int):ZpG x0 x1 =
 (if (cop .lss x1 6)=true then
 some (false)
 else
 if (cop .gtr x1 40)=true then
 some (false)
 else
 if (cop .lss x0 0)=true then
 some (false)
 else
 if (cop .geq x0 1099511627776)=true then
 some (false)
 else
 Zw ((0:Int)≤(IntKind.wrap .u64 x1))<|
 Zw (((iop .shl .i64 1 (IntKind.wrap .u64 x1)):Int)≠0)<|
 if (cop .eql (iop .rem .i64 x0 (iop .shl .i64 1 (IntKind.wrap .u64 x1))) 0)=true then
 some ((cop .leq (iop .add .i64 x0 (iop .shl .i64 1 (IntKind.wrap .u64 x1))) 1099511627776))
 else
 some (false)):=by kernel_rfl
noncomputable def F86:Fn:=⟨23,[4],[],[],0,[],[],Tryz.f86,[.c (.int .i64),.c (.int .i64)],[.c (.bool)],[]⟩
theorem ZyV:F86.S.Ok Tryz.prog 86:=F86.ok Tryz.func86 (by kernel_rfl) trivial
noncomputable def g86 (x0 x1:Int):Option (Bool):=F86.S.g [.i x0,.i x1]
theorem Ztm (x0 x1:Int):g86 x0 x1 =
 (if (cop .geq x1 0)=true then
 if (cop .eql x0 32)=true then
 if (cop .leq x1 1)=true then
 some (true)
 else
 if (cop .eql x0 39)=true then
 some ((cop .leq x1 2))
 else
 some (false)
 else
 if (cop .eql x0 39)=true then
 some ((cop .leq x1 2))
 else
 some (false)
 else
 some (false)):=by kernel_rfl
noncomputable def F84:Fn:=⟨64,[2],[],[],0,[],[],Tryz.f84,[.agg hs13],[.c (.bool)],[(85,F85.S),(81,F81.S),(139,Zqa.S),(86,F86.S)]⟩
theorem ZxN:F84.S.Ok Tryz.prog 84:=F84.ok Tryz.func84 (by kernel_rfl) ⟨Zy1,⟨Zyu,⟨ZoW,⟨ZyV,trivial⟩⟩⟩⟩
noncomputable def g84 (x0 x1 x2 x3 x4 x5:Int) (x6:Bool):Option (Bool):=F84.S.g [.i x0,.i x1,.i x2,.i x3,.i x4,.i x5,.b x6]
theorem Zuo (x0 x1 x2 x3 x4 x5:Int) (x6:Bool):g84 x0 x1 x2 x3 x4 x5 x6 =
 ((g85 x0 x2).bind fun (r7:Bool)=>
 if (!r7)=true then
 some (false)
 else
 (g81 x0 x1 x2 x3 x4 x5 x6).bind fun (r8:Int×Int)=>
 (ZpG r8.1 r8.2).bind fun (r10:Bool)=>
 if (!r10)=true then
 some (false)
 else
 if (cop .lss x3 0)=true then
 some (false)
 else
 if (cop .gtr x3 7)=true then
 some (false)
 else
 if (cop .eql x0 3)=true then
 (g86 x4 x5).bind fun (r11:Bool)=>
 if (!r11)=true then
 some (false)
 else
 if (cop .neq x0 3)=true then
 if (cop .neq x4 0)=true then
 some (false)
 else
 if (cop .neq x5 0)=true then
 some (false)
 else
 if (!x6)=true then
 some (true)
 else
 if (cop .eql x0 1)=true then
 some (true)
 else
 some ((cop .eql x0 2))
 else
 if (!x6)=true then
 some (true)
 else
 if (cop .eql x0 1)=true then
 some (true)
 else
 some ((cop .eql x0 2))
 else
 if (cop .neq x0 3)=true then
 if (cop .neq x4 0)=true then
 some (false)
 else
 if (cop .neq x5 0)=true then
 some (false)
 else
 if (!x6)=true then
 some (true)
 else
 if (cop .eql x0 1)=true then
 some (true)
 else
 some ((cop .eql x0 2))
 else
 if (!x6)=true then
 some (true)
 else
 if (cop .eql x0 1)=true then
 some (true)
 else
 some ((cop .eql x0 2))):=by kernel_rfl
noncomputable def F18:Fn:=⟨18,[4],[(2,[(0,.c (.slice 3)),(3,.box [.int .i64,.int .i64,.int .i64]),(5,.c (.int .i64))])],[],0,[],[],Tryz.f18,[.c (.slice 3),.agg [.int .i64,.int .i64,.int .i64]],[.c (.bool)],[]⟩
theorem ZyM:F18.S.Ok Tryz.prog 18:=F18.ok Tryz.func18 (by kernel_rfl) trivial
noncomputable def g18 (x0:LL) (x1 x2 x3:Int):Option (Bool):=F18.S.g [.l x0,.i x1,.i x2,.i x3]
noncomputable def ZnL (k:Nat) (x0:LL) (x1 x2 x3 x4:Int):Option (Bool):=F18.lp [0] 0 r0 k [.l x0,.i x1,.i x2,.i x3,.i x4]
theorem ZjD (k:Nat) (x0:LL) (x1 x2 x3 x4:Int):ZnL (k+1) x0 x1 x2 x3 x4 =
 (if (cop .lss x4 (List.length x0:Int))=true then
 Zi x0 x4 [.int .i64,.int .i64,.int .i64] fun (r5:Int×Int×Int)=>
 if ((cop .eql r5.1 x1)&&((cop .eql r5.2.1 x2)&&((cop .eql r5.2.2 x3)&&true)))=true then
 some (true)
 else
 ZnL k x0 x1 x2 x3 (iop .add .i64 x4 1)
 else
 some (false)):=by kernel_rfl
theorem ZsM (x0:LL) (x1 x2 x3:Int):g18 x0 x1 x2 x3 =
 (ZnL Zx x0 x1 x2 x3 0):=by kernel_rfl
noncomputable def F87:Fn:=⟨53,[2],[(4,[(1,.box hs8),(3,.c (.int .i64))])],[],0,[],[],Tryz.f87,[.agg hs8],[.c (.bool)],[(88,F88.S),(84,F84.S),(18,F18.S)]⟩
theorem ZzU:F87.S.Ok Tryz.prog 87:=F87.ok Tryz.func87 (by kernel_rfl) ⟨ZyD,⟨ZxN,⟨ZyM,trivial⟩⟩⟩
noncomputable def g87 (x0 x1 x2:Int) (x3:LL) (x4 x5 x6 x7 x8 x9:Int) (x10:Bool):Option (Bool):=F87.S.g [.i x0,.i x1,.i x2,.l x3,.i x4,.i x5,.i x6,.i x7,.i x8,.i x9,.b x10]
noncomputable def ZoT (k:Nat) (x0 x1 x2:Int) (x3:LL) (x4 x5 x6 x7 x8 x9:Int) (x10:Bool) (x11:Int):Option (Bool):=F87.lp [0,1,0,1,1,0,1,0] 0 r0 k [.i x0,.i x1,.i x2,.l x3,.i x4,.i x5,.i x6,.i x7,.i x8,.i x9,.b x10,.i x11]
theorem Zj2 (k:Nat) (x0 x1 x2:Int) (x3:LL) (x4 x5 x6 x7 x8 x9:Int) (x10:Bool) (x11:Int):ZoT (k+1) x0 x1 x2 x3 x4 x5 x6 x7 x8 x9 x10 x11 =
 (if (cop .lss x11 (List.length x3:Int))=true then
 Zi x3 x11 [.int .i64,.int .i64,.int .i64] fun (r12:Int×Int×Int)=>
 (g88 r12.1 r12.2.1 r12.2.2).bind fun (r15:Bool)=>
 if (!r15)=true then
 some (false)
 else
 Zw ((0:Int)≤x11)<|
 Zw ((x11:Int)≤(List.length x3:Int))<|
 Zi x3 x11 [.int .i64,.int .i64,.int .i64] fun (r16:Int×Int×Int)=>
 (g18 (List.take (Int.toNat x11) x3) r16.1 r16.2.1 r16.2.2).bind fun (r19:Bool)=>
 if r19=true then
 some (false)
 else
 ZoT k x0 x1 x2 x3 x4 x5 x6 x7 x8 x9 x10 (iop .add .i64 x11 1)
 else
 some (true)):=by kernel_rfl
theorem ZtB (x0 x1 x2:Int) (x3:LL) (x4 x5 x6 x7 x8 x9:Int) (x10:Bool):g87 x0 x1 x2 x3 x4 x5 x6 x7 x8 x9 x10 =
 ((g88 x0 x1 x2).bind fun (r11:Bool)=>
 if (!r11)=true then
 some (false)
 else
 (g84 x4 x5 x6 x7 x8 x9 x10).bind fun (r12:Bool)=>
 if (!r12)=true then
 some (false)
 else
 if (cop .gtr (List.length x3:Int) 8)=true then
 some (false)
 else
 (g18 x3 x0 x1 x2).bind fun (r13:Bool)=>
 if r13=true then
 some (false)
 else
 ZoT Zx x0 x1 x2 x3 x4 x5 x6 x7 x8 x9 x10 0):=by kernel_rfl
noncomputable def F91:Fn:=⟨46,[2],[],[],0,[],[],Tryz.f91,[.agg hs3],[.c (.bool)],[(92,F92.S),(100,Zss.S),(19,F19.S),(87,F87.S)]⟩
noncomputable def g91 (x0 x1 x2 x3 x4 x5 x6 x7 x8 x9 x10 x11 x12 x13 x14 x15 x16 x17 x18 x19:Int) (x20:LL) (x21 x22 x23 x24 x25 x26:Int) (x27:Bool):Option (Bool):=F91.S.g [.i x0,.i x1,.i x2,.i x3,.i x4,.i x5,.i x6,.i x7,.i x8,.i x9,.i x10,.i x11,.i x12,.i x13,.i x14,.i x15,.i x16,.i x17,.i x18,.i x19,.l x20,.i x21,.i x22,.i x23,.i x24,.i x25,.i x26,.b x27]
theorem ZtS (x0 x1 x2 x3 x4 x5 x6 x7 x8 x9 x10 x11 x12 x13 x14 x15 x16 x17 x18 x19:Int) (x20:LL) (x21 x22 x23 x24 x25 x26:Int) (x27:Bool):g91 x0 x1 x2 x3 x4 x5 x6 x7 x8 x9 x10 x11 x12 x13 x14 x15 x16 x17 x18 x19 x20 x21 x22 x23 x24 x25 x26 x27 =
 ((g92 x0 x1 x2).bind fun (r28:Bool)=>
 if (!r28)=true then
 some (false)
 else
 if (cop .lss x3 1)=true then
 some (false)
 else
 if (cop .gtr x3 6)=true then
 some (false)
 else
 (Zre x15).bind fun (r29:Bool)=>
 if (!r29)=true then
 some (false)
 else
 if (cop .neq x16 32)=true then
 if (cop .neq x16 39)=true then
 some (false)
 else
 if (cop .eql x3 1)=true then
 (g19 x17 x18 x19 x20 x21 x22 x23 x24 x25 x26 x27 0 0 0 E0 0 0 0 0 0 0 false).bind fun (r30:Bool)=>
 some (r30)
 else
 (g87 x17 x18 x19 x20 x21 x22 x23 x24 x25 x26 x27).bind fun (r30:Bool)=>
 some (r30)
 else
 if (cop .eql x3 1)=true then
 (g19 x17 x18 x19 x20 x21 x22 x23 x24 x25 x26 x27 0 0 0 E0 0 0 0 0 0 0 false).bind fun (r30:Bool)=>
 some (r30)
 else
 (g87 x17 x18 x19 x20 x21 x22 x23 x24 x25 x26 x27).bind fun (r30:Bool)=>
 some (r30)):=by kernel_rfl
noncomputable def F93:Fn:=⟨9,[2],[],[],0,[],[],Tryz.f93,[.c (.int .i64)],[.c (.bool)],[]⟩
noncomputable def g93 (x0:Int):Option (Bool):=F93.S.g [.i x0]
theorem Zu0 (x0:Int):g93 x0 =
 (if (cop .geq x0 0)=true then
 some ((cop .leq x0 99))
 else
 some (false)):=by kernel_rfl
noncomputable def F94:Fn:=⟨29,[4],[(2,[(0,.c (.slice 3)),(1,.c (.bool)),(5,.c (.int .i64))])],[],0,[],[],Tryz.f94,[.c (.slice 3),.c (.bool)],[.c (.bool)],[(88,F88.S)]⟩
noncomputable def g94 (x0:LL) (x1:Bool):Option (Bool):=F94.S.g [.l x0,.b x1]
noncomputable def Zgr (k:Nat) (x0:LL) (x1:Bool) (x2:Int):Option (Bool):=F94.lp [0] 0 r0 k [.l x0,.b x1,.i x2]
theorem ZjK (k:Nat) (x0:LL) (x1:Bool) (x2:Int):Zgr (k+1) x0 x1 x2 =
 (if (cop .lss x2 (List.length x0:Int))=true then
 Zi x0 x2 [.int .i64,.int .i64,.int .i64] fun (r3:Int×Int×Int)=>
 (g88 r3.1 r3.2.1 r3.2.2).bind fun (r6:Bool)=>
 if (!r6)=true then
 some (false)
 else
 if x1=true then
 Zi x0 x2 [.int .i64,.int .i64,.int .i64] fun (r7:Int×Int×Int)=>
 if (cop .neq r7.2.2 0)=true then
 some (false)
 else
 Zgr k x0 x1 (iop .add .i64 x2 1)
 else
 Zgr k x0 x1 (iop .add .i64 x2 1)
 else
 some (true)):=by kernel_rfl
theorem Zub (x0:LL) (x1:Bool):g94 x0 x1 =
 (Zgr Zx x0 x1 0):=by kernel_rfl
noncomputable def F95:Fn:=⟨32,[2],[(2,[(0,.c (.slice 1)),(3,.c (.int .i64))])],[],0,[],[],Tryz.f95,[.c (.slice 1)],[.c (.bool)],[(90,F90.S)]⟩
noncomputable def g95 (x0:LL):Option (Bool):=F95.S.g [.l x0]
noncomputable def Zhu (k:Nat) (x0:LL) (x1:Int):Option (Bool):=F95.lp [0] 0 r0 k [.l x0,.i x1]
theorem ZjT (k:Nat) (x0:LL) (x1:Int):Zhu (k+1) x0 x1 =
 (if (cop .lss x1 (List.length x0:Int))=true then
 Zi x0 x1 [.int .i64] fun (r2:Int)=>
 (g90 r2).bind fun (r3:Bool)=>
 if (!r3)=true then
 some (false)
 else
 if (cop .gtr x1 0)=true then
 Zi x0 x1 [.int .i64] fun (r4:Int)=>
 Zi x0 (iop .sub .i64 x1 1) [.int .i64] fun (r5:Int)=>
 if (cop .leq r4 r5)=true then
 some (false)
 else
 Zhu k x0 (iop .add .i64 x1 1)
 else
 Zhu k x0 (iop .add .i64 x1 1)
 else
 some (true)):=by kernel_rfl
theorem Zuh (x0:LL):g95 x0 =
 (Zhu Zx x0 0):=by kernel_rfl
noncomputable def F55:Fn:=⟨18,[4],[(2,[(0,.c (.slice 1)),(1,.c (.int .i64)),(5,.c (.int .i64))])],[],0,[],[],Tryz.f55,[.c (.slice 1),.c (.int .i64)],[.c (.bool)],[]⟩
noncomputable def g55 (x0:LL) (x1:Int):Option (Bool):=F55.S.g [.l x0,.i x1]
noncomputable def ZiR (k:Nat) (x0:LL) (x1 x2:Int):Option (Bool):=F55.lp [0] 0 r0 k [.l x0,.i x1,.i x2]
theorem ZjB (k:Nat) (x0:LL) (x1 x2:Int):ZiR (k+1) x0 x1 x2 =
 (if (cop .lss x2 (List.length x0:Int))=true then
 Zi x0 x2 [.int .i64] fun (r3:Int)=>
 if (cop .eql r3 x1)=true then
 some (true)
 else
 ZiR k x0 x1 (iop .add .i64 x2 1)
 else
 some (false)):=by kernel_rfl
theorem ZuN (x0:LL) (x1:Int):g55 x0 x1 =
 (ZiR Zx x0 x1 0):=by kernel_rfl
noncomputable def F97:Fn:=⟨61,[2],[(4,[(1,.box [.int .i64,.slice 1,.slice 1]),(3,.c (.int .i64))]),(9,[(1,.box [.int .i64,.slice 1,.slice 1]),(4,.c (.int .i64))])],[],0,[],[],Tryz.f97,[.agg [.int .i64,.slice 1,.slice 1]],[.c (.bool)],[(89,F89.S),(90,F90.S),(55,F55.S)]⟩
noncomputable def g97 (x0:Int) (x1 x2:LL):Option (Bool):=F97.S.g [.i x0,.l x1,.l x2]
noncomputable def ZhO (k:Nat) (x0:Int) (x1 x2:LL) (x3:Int):Option (Bool):=F97.lp [0,1,1,1,0,1,0] 0 r0 k [.i x0,.l x1,.l x2,.i x3]
theorem Zjt (k:Nat) (x0:Int) (x1 x2:LL) (x3:Int):ZhO (k+1) x0 x1 x2 x3 =
 (if (cop .lss x3 (List.length x2:Int))=true then
 Zi x2 x3 [.int .i64] fun (r4:Int)=>
 (g90 r4).bind fun (r5:Bool)=>
 if (!r5)=true then
 some (false)
 else
 ZhO k x0 x1 x2 (iop .add .i64 x3 1)
 else
 some (true)):=by kernel_rfl
noncomputable def Ziv (k:Nat) (x0:Int) (x1 x2:LL) (x3:Int):Option (Bool):=F97.lp [0,1,1,1,0] 0 r0 k [.i x0,.l x1,.l x2,.i x3]
theorem Zke (k:Nat) (x0:Int) (x1 x2:LL) (x3:Int):Ziv (k+1) x0 x1 x2 x3 =
 (if (cop .lss x3 (List.length x1:Int))=true then
 Zi x1 x3 [.int .i64] fun (r4:Int)=>
 (g90 r4).bind fun (r5:Bool)=>
 if (!r5)=true then
 some (false)
 else
 Zw ((0:Int)≤x3)<|
 Zw ((x3:Int)≤(List.length x1:Int))<|
 Zi x1 x3 [.int .i64] fun (r6:Int)=>
 (g55 (List.take (Int.toNat x3) x1) r6).bind fun (r7:Bool)=>
 if r7=true then
 some (false)
 else
 Ziv k x0 x1 x2 (iop .add .i64 x3 1)
 else
 ZhO Zx x0 x1 x2 0):=by kernel_rfl
theorem Zuw (x0:Int) (x1 x2:LL):g97 x0 x1 x2 =
 ((g89 x0).bind fun (r3:Bool)=>
 if (!r3)=true then
 some (false)
 else
 if (cop .gtr (List.length x1:Int) 32)=true then
 some (false)
 else
 if (cop .gtr (List.length x2:Int) 16)=true then
 some (false)
 else
 Ziv Zx x0 x1 x2 0):=by kernel_rfl
noncomputable def F21:Fn:=⟨8,[2],[],[],0,[],[],Tryz.f21,[.agg hs6],[.c (.bool)],[]⟩
theorem Zwo:F21.S.Ok Tryz.prog 21:=F21.ok Tryz.func21 (by kernel_rfl) trivial
noncomputable def g21 (x0 x1 x2:Int) (x3:LL) (x4 x5 x6 x7 x8 x9:Int) (x10:Bool) (x11 x12 x13 x14:Int):Option (Bool):=F21.S.g [.i x0,.i x1,.i x2,.l x3,.i x4,.i x5,.i x6,.i x7,.i x8,.i x9,.b x10,.i x11,.i x12,.i x13,.i x14]
theorem ZlL (x0 x1 x2:Int) (x3:LL) (x4 x5 x6 x7 x8 x9:Int) (x10:Bool) (x11 x12 x13 x14:Int):g21 x0 x1 x2 x3 x4 x5 x6 x7 x8 x9 x10 x11 x12 x13 x14 =
 (some (((cop .eql x0 0)&&((cop .eql x1 0)&&((cop .eql x2 0)&&true))))):=by kernel_rfl
noncomputable def F23:Fn:=⟨29,[4],[(2,[(0,.c (.slice 15)),(3,.box [.int .i64,.int .i64,.int .i64]),(5,.c (.int .i64))])],[],0,[],[],Tryz.f23,[.c (.slice 15),.agg [.int .i64,.int .i64,.int .i64]],[.c (.int .i64)],[(21,F21.S)]⟩
theorem Zz1:F23.S.Ok Tryz.prog 23:=F23.ok Tryz.func23 (by kernel_rfl) ⟨Zwo,trivial⟩
noncomputable def g23 (x0:LL) (x1 x2 x3:Int):Option (Int):=F23.S.g [.l x0,.i x1,.i x2,.i x3]
noncomputable def Zd7 (k:Nat) (x0:LL) (x1 x2 x3 x4:Int):Option (Int):=F23.lp [0] 0 r0 k [.l x0,.i x1,.i x2,.i x3,.i x4]
theorem ZcA (k:Nat) (x0:LL) (x1 x2 x3 x4:Int):Zd7 (k+1) x0 x1 x2 x3 x4 =
 (if (cop .lss x4 (List.length x0:Int))=true then
 Zi x0 x4 hs6 fun (r5:Qt11)=>
 (g21 r5.1 r5.2.1 r5.2.2.1 r5.2.2.2.1 r5.2.2.2.2.1 r5.2.2.2.2.2.1 r5.2.2.2.2.2.2.1 r5.2.2.2.2.2.2.2.1 r5.2.2.2.2.2.2.2.2.1 r5.2.2.2.2.2.2.2.2.2.1 r5.2.2.2.2.2.2.2.2.2.2.1 r5.2.2.2.2.2.2.2.2.2.2.2.1 (d4 (d8 r5)).1 (d4 (d8 r5)).2.1 (d2 (d4 (d8 r5)))).bind fun (r20:Bool)=>
 if (!r20)=true then
 Zi x0 x4 hs6 fun (r21:Qt11)=>
 if ((cop .eql r21.1 x1)&&((cop .eql r21.2.1 x2)&&((cop .eql r21.2.2.1 x3)&&true)))=true then
 some (x4)
 else
 Zd7 k x0 x1 x2 x3 (iop .add .i64 x4 1)
 else
 Zd7 k x0 x1 x2 x3 (iop .add .i64 x4 1)
 else
 some ((-1))):=by kernel_rfl
theorem ZpB (x0:LL) (x1 x2 x3:Int):g23 x0 x1 x2 x3 =
 (Zd7 Zx x0 x1 x2 x3 0):=by kernel_rfl
noncomputable def Zyi:Fn:=⟨70,[2],[(4,[(0,.c (.slice 15)),(3,.c (.int .i64))])],[],0,[],[],Tryz.f144,[.c (.slice 15)],[.c (.bool)],[(88,F88.S),(21,F21.S),(19,F19.S),(87,F87.S),(23,F23.S)]⟩
noncomputable def Zwm (x0:LL):Option (Bool):=Zyi.S.g [.l x0]
noncomputable def WM (k:Nat) (x0:LL) (x1:Int):Option (Bool):=Zyi.lp [1,0] 0 r0 k [.l x0,.i x1]
theorem ZgV (k:Nat) (x0:LL) (x1:Int):WM (k+1) x0 x1 =
 (if (cop .lss x1 (List.length x0:Int))=true then
 Zi x0 x1 hs6 fun (r2:Qt11)=>
 if (cop .lss r2.2.2.2.2.2.2.2.2.2.2.2.1 0)=true then
 some (false)
 else
 if (cop .gtr r2.2.2.2.2.2.2.2.2.2.2.2.1 1073741824)=true then
 some (false)
 else
 if (!((cop .eql (d4 (d8 r2)).1 0)&&((cop .eql (d4 (d8 r2)).2.1 0)&&((cop .eql (d2 (d4 (d8 r2))) 0)&&true))))=true then
 (g88 (d4 (d8 r2)).1 (d4 (d8 r2)).2.1 (d2 (d4 (d8 r2)))).bind fun (r17:Bool)=>
 if (!r17)=true then
 some (false)
 else
 if (cop .neq (d2 (d4 (d8 r2))) 0)=true then
 some (false)
 else
 (g21 r2.1 r2.2.1 r2.2.2.1 r2.2.2.2.1 r2.2.2.2.2.1 r2.2.2.2.2.2.1 r2.2.2.2.2.2.2.1 r2.2.2.2.2.2.2.2.1 r2.2.2.2.2.2.2.2.2.1 r2.2.2.2.2.2.2.2.2.2.1 r2.2.2.2.2.2.2.2.2.2.2.1 r2.2.2.2.2.2.2.2.2.2.2.2.1 (d4 (d8 r2)).1 (d4 (d8 r2)).2.1 (d2 (d4 (d8 r2)))).bind fun (r18:Bool)=>
 if r18=true then
 (g19 r2.1 r2.2.1 r2.2.2.1 r2.2.2.2.1 r2.2.2.2.2.1 r2.2.2.2.2.2.1 r2.2.2.2.2.2.2.1 r2.2.2.2.2.2.2.2.1 r2.2.2.2.2.2.2.2.2.1 r2.2.2.2.2.2.2.2.2.2.1 r2.2.2.2.2.2.2.2.2.2.2.1 0 0 0 E0 0 0 0 0 0 0 false).bind fun (r19:Bool)=>
 if (!r19)=true then
 some (false)
 else
 if (!((cop .eql (d4 (d8 r2)).1 0)&&((cop .eql (d4 (d8 r2)).2.1 0)&&((cop .eql (d2 (d4 (d8 r2))) 0)&&true))))=true then
 some (false)
 else
 WM k x0 (iop .add .i64 x1 1)
 else
 (g87 r2.1 r2.2.1 r2.2.2.1 r2.2.2.2.1 r2.2.2.2.2.1 r2.2.2.2.2.2.1 r2.2.2.2.2.2.2.1 r2.2.2.2.2.2.2.2.1 r2.2.2.2.2.2.2.2.2.1 r2.2.2.2.2.2.2.2.2.2.1 r2.2.2.2.2.2.2.2.2.2.2.1).bind fun (r19:Bool)=>
 if (!r19)=true then
 some (false)
 else
 (g23 x0 r2.1 r2.2.1 r2.2.2.1).bind fun (r20:Int)=>
 if (cop .neq r20 x1)=true then
 some (false)
 else
 WM k x0 (iop .add .i64 x1 1)
 else
 (g21 r2.1 r2.2.1 r2.2.2.1 r2.2.2.2.1 r2.2.2.2.2.1 r2.2.2.2.2.2.1 r2.2.2.2.2.2.2.1 r2.2.2.2.2.2.2.2.1 r2.2.2.2.2.2.2.2.2.1 r2.2.2.2.2.2.2.2.2.2.1 r2.2.2.2.2.2.2.2.2.2.2.1 r2.2.2.2.2.2.2.2.2.2.2.2.1 (d4 (d8 r2)).1 (d4 (d8 r2)).2.1 (d2 (d4 (d8 r2)))).bind fun (r17:Bool)=>
 if r17=true then
 (g19 r2.1 r2.2.1 r2.2.2.1 r2.2.2.2.1 r2.2.2.2.2.1 r2.2.2.2.2.2.1 r2.2.2.2.2.2.2.1 r2.2.2.2.2.2.2.2.1 r2.2.2.2.2.2.2.2.2.1 r2.2.2.2.2.2.2.2.2.2.1 r2.2.2.2.2.2.2.2.2.2.2.1 0 0 0 E0 0 0 0 0 0 0 false).bind fun (r18:Bool)=>
 if (!r18)=true then
 some (false)
 else
 if (!((cop .eql (d4 (d8 r2)).1 0)&&((cop .eql (d4 (d8 r2)).2.1 0)&&((cop .eql (d2 (d4 (d8 r2))) 0)&&true))))=true then
 some (false)
 else
 WM k x0 (iop .add .i64 x1 1)
 else
 (g87 r2.1 r2.2.1 r2.2.2.1 r2.2.2.2.1 r2.2.2.2.2.1 r2.2.2.2.2.2.1 r2.2.2.2.2.2.2.1 r2.2.2.2.2.2.2.2.1 r2.2.2.2.2.2.2.2.2.1 r2.2.2.2.2.2.2.2.2.2.1 r2.2.2.2.2.2.2.2.2.2.2.1).bind fun (r18:Bool)=>
 if (!r18)=true then
 some (false)
 else
 (g23 x0 r2.1 r2.2.1 r2.2.2.1).bind fun (r19:Int)=>
 if (cop .neq r19 x1)=true then
 some (false)
 else
 WM k x0 (iop .add .i64 x1 1)
 else
 some (true)):=by kernel_rfl
theorem ZqK (x0:LL):Zwm x0 =
 (if (cop .gtr (List.length x0:Int) 64)=true then
 some (false)
 else
 WM Zx x0 0):=by kernel_rfl
noncomputable def F29:Fn:=⟨30,[4],[],[],0,[],[],Tryz.f29,[.agg [.int .i64,.int .i64,.int .i64],.agg [.int .i64,.int .i64,.int .i64]],[.c (.bool)],[]⟩
theorem ZyU:F29.S.Ok Tryz.prog 29:=F29.ok Tryz.func29 (by kernel_rfl) trivial
noncomputable def g29 (x0 x1 x2 x3 x4 x5:Int):Option (Bool):=F29.S.g [.i x0,.i x1,.i x2,.i x3,.i x4,.i x5]
theorem ZsJ (x0 x1 x2 x3 x4 x5:Int):g29 x0 x1 x2 x3 x4 x5 =
 (if (cop .neq x0 x3)=true then
 some ((cop .lss x0 x3))
 else
 if (cop .neq x1 x4)=true then
 some ((cop .lss x1 x4))
 else
 some ((cop .lss x2 x5))):=by kernel_rfl
noncomputable def F98:Fn:=⟨186,[2],[(4,[(1,.box hs16),(3,.c (.int .i64))]),(9,[(1,.box hs16),(4,.c (.int .i64))]),(15,[(1,.box hs16),(6,.c (.int .i64))]),(21,[(1,.box hs16),(8,.c (.int .i64))])],[],0,[],[],Tryz.f98,[.agg hs16],[.c (.bool)],[(144,Zyi.S),(94,F94.S),(91,F91.S),(29,F29.S),(100,Zss.S),(92,F92.S),(93,F93.S),(90,F90.S),(87,F87.S)]⟩
noncomputable def g98 (x0 x1 x2 x3 x4 x5:LL):Option (Bool):=F98.S.g [.l x0,.l x1,.l x2,.l x3,.l x4,.l x5]
noncomputable def ZcM (k:Nat) (x0 x1 x2 x3 x4 x5:LL) (x6:Int):Option (Bool):=F98.lp [0,1,0,1,0,1,0,1,0,1,0] 0 r0 k [.l x0,.l x1,.l x2,.l x3,.l x4,.l x5,.i x6]
theorem ZjR (k:Nat) (x0 x1 x2 x3 x4 x5:LL) (x6:Int):ZcM (k+1) x0 x1 x2 x3 x4 x5 x6 =
 (if (cop .lss x6 (List.length x4:Int))=true then
 Zi x4 x6 hs7 fun (r7:Qt12)=>
 (g90 r7.1).bind fun (r20:Bool)=>
 if (!r20)=true then
 some (false)
 else
 if (cop .lss r7.2.1 0)=true then
 some (false)
 else
 if (cop .geq r7.2.1 64)=true then
 some (false)
 else
 (g87 r7.2.2.1 r7.2.2.2.1 r7.2.2.2.2.1 r7.2.2.2.2.2.1 r7.2.2.2.2.2.2.1 r7.2.2.2.2.2.2.2.1 r7.2.2.2.2.2.2.2.2.1 r7.2.2.2.2.2.2.2.2.2.1 r7.2.2.2.2.2.2.2.2.2.2.1 r7.2.2.2.2.2.2.2.2.2.2.2.1 (d4 (d8 r7))).bind fun (r21:Bool)=>
 if (!r21)=true then
 some (false)
 else
 if (cop .gtr x6 0)=true then
 Zi x4 (iop .sub .i64 x6 1) hs7 fun (r22:Qt12)=>
 (g29 r22.2.2.1 r22.2.2.2.1 r22.2.2.2.2.1 r7.2.2.1 r7.2.2.2.1 r7.2.2.2.2.1).bind fun (r35:Bool)=>
 if (!r35)=true then
 some (false)
 else
 ZcM k x0 x1 x2 x3 x4 x5 (iop .add .i64 x6 1)
 else
 ZcM k x0 x1 x2 x3 x4 x5 (iop .add .i64 x6 1)
 else
 some (true)):=by kernel_rfl
noncomputable def ZdE (k:Nat) (x0 x1 x2 x3 x4 x5:LL) (x6:Int):Option (Bool):=F98.lp [0,1,0,1,0,1,0,1,0] 0 r0 k [.l x0,.l x1,.l x2,.l x3,.l x4,.l x5,.i x6]
theorem Zjm (k:Nat) (x0 x1 x2 x3 x4 x5:LL) (x6:Int):ZdE (k+1) x0 x1 x2 x3 x4 x5 x6 =
 (if (cop .lss x6 (List.length x3:Int))=true then
 Zi x3 x6 [.int .i64,.int .i64] fun (r7:Int×Int)=>
 if (cop .lss r7.1 1)=true then
 some (false)
 else
 if (cop .gtr r7.1 1073741824)=true then
 some (false)
 else
 (g93 r7.2).bind fun (r9:Bool)=>
 if (!r9)=true then
 some (false)
 else
 if (cop .gtr x6 0)=true then
 Zi x3 (iop .sub .i64 x6 1) [.int .i64,.int .i64] fun (r10:Int×Int)=>
 if (cop .leq r7.1 r10.1)=true then
 some (false)
 else
 ZdE k x0 x1 x2 x3 x4 x5 (iop .add .i64 x6 1)
 else
 ZdE k x0 x1 x2 x3 x4 x5 (iop .add .i64 x6 1)
 else
 ZcM Zx x0 x1 x2 x3 x4 x5 0):=by kernel_rfl
noncomputable def Zdy (k:Nat) (x0 x1 x2 x3 x4 x5:LL) (x6:Int):Option (Bool):=F98.lp [0,1,0,1,0,1,0] 0 r0 k [.l x0,.l x1,.l x2,.l x3,.l x4,.l x5,.i x6]
theorem Zi5 (k:Nat) (x0 x1 x2 x3 x4 x5:LL) (x6:Int):Zdy (k+1) x0 x1 x2 x3 x4 x5 x6 =
 (if (cop .lss x6 (List.length x2:Int))=true then
 Zi x2 x6 [.int .i64,.int .i64,.int .i64,.int .i64] fun (r7:Int×Int×Int×Int)=>
 (Zre r7.1).bind fun (r11:Bool)=>
 if (!r11)=true then
 some (false)
 else
 (g92 r7.2.1 r7.2.2.1 r7.2.2.2).bind fun (r12:Bool)=>
 if (!r12)=true then
 some (false)
 else
 if (cop .gtr x6 0)=true then
 Zi x2 (iop .sub .i64 x6 1) [.int .i64,.int .i64,.int .i64,.int .i64] fun (r13:Int×Int×Int×Int)=>
 if (cop .leq r7.1 r13.1)=true then
 some (false)
 else
 Zdy k x0 x1 x2 x3 x4 x5 (iop .add .i64 x6 1)
 else
 Zdy k x0 x1 x2 x3 x4 x5 (iop .add .i64 x6 1)
 else
 ZdE Zx x0 x1 x2 x3 x4 x5 0):=by kernel_rfl
noncomputable def Zfz (k:Nat) (x0 x1 x2 x3 x4 x5:LL) (x6:Int):Option (Bool):=F98.lp [0,1,0,1,0] 0 r0 k [.l x0,.l x1,.l x2,.l x3,.l x4,.l x5,.i x6]
theorem Zj7 (k:Nat) (x0 x1 x2 x3 x4 x5:LL) (x6:Int):Zfz (k+1) x0 x1 x2 x3 x4 x5 x6 =
 (if (cop .lss x6 (List.length x1:Int))=true then
 Zi x1 x6 hs3 fun (r7:Qt5)=>
 (g91 r7.1 r7.2.1 r7.2.2.1 r7.2.2.2.1 r7.2.2.2.2.1 r7.2.2.2.2.2.1 r7.2.2.2.2.2.2.1 r7.2.2.2.2.2.2.2.1 r7.2.2.2.2.2.2.2.2.1 r7.2.2.2.2.2.2.2.2.2.1 r7.2.2.2.2.2.2.2.2.2.2.1 r7.2.2.2.2.2.2.2.2.2.2.2.1 (d4 (d8 r7)).1 (d4 (d8 r7)).2.1 (d2 (d4 (d8 r7))).1 (d2 (d4 (d8 r7))).2.1 (d16 r7).1 (d16 r7).2.1 (d2 (d16 r7)).1 (d2 (d16 r7)).2.1 (d4 (d16 r7)).1 (d4 (d16 r7)).2.1 (d2 (d4 (d16 r7))).1 (d2 (d4 (d16 r7))).2.1 (d8 (d16 r7)).1 (d8 (d16 r7)).2.1 (d2 (d8 (d16 r7))).1 (d2 (d8 (d16 r7))).2).bind fun (r35:Bool)=>
 if (!r35)=true then
 some (false)
 else
 if (cop .gtr x6 0)=true then
 Zi x1 (iop .sub .i64 x6 1) hs3 fun (r36:Qt5)=>
 Zi x1 x6 hs3 fun (r64:Qt5)=>
 (g29 r36.1 r36.2.1 r36.2.2.1 r64.1 r64.2.1 r64.2.2.1).bind fun (r92:Bool)=>
 if (!r92)=true then
 some (false)
 else
 Zfz k x0 x1 x2 x3 x4 x5 (iop .add .i64 x6 1)
 else
 Zfz k x0 x1 x2 x3 x4 x5 (iop .add .i64 x6 1)
 else
 Zdy Zx x0 x1 x2 x3 x4 x5 0):=by kernel_rfl
theorem ZuD (x0 x1 x2 x3 x4 x5:LL):g98 x0 x1 x2 x3 x4 x5 =
 ((Zwm x0).bind fun (r6:Bool)=>
 if (!r6)=true then
 some (false)
 else
 (g94 x5 true).bind fun (r7:Bool)=>
 if (!r7)=true then
 some (false)
 else
 Zfz Zx x0 x1 x2 x3 x4 x5 0):=by kernel_rfl
noncomputable def F96:Fn:=⟨26,[2],[],[],0,[],[],Tryz.f96,[.agg hs4],[.c (.bool)],[(90,F90.S),(97,F97.S),(98,F98.S)]⟩
noncomputable def g96 (x0 x1:Int) (x2 x3 x4 x5 x6 x7 x8 x9:LL) (x10:Bool) (x11:Int) (x12 x13 x14 x15 x16 x17 x18 x19:LL):Option (Bool):=F96.S.g [.i x0,.i x1,.l x2,.l x3,.l x4,.l x5,.l x6,.l x7,.l x8,.l x9,.b x10,.i x11,.l x12,.l x13,.l x14,.l x15,.l x16,.l x17,.l x18,.l x19]
theorem Ztp (x0 x1:Int) (x2 x3 x4 x5 x6 x7 x8 x9:LL) (x10:Bool) (x11:Int) (x12 x13 x14 x15 x16 x17 x18 x19:LL):g96 x0 x1 x2 x3 x4 x5 x6 x7 x8 x9 x10 x11 x12 x13 x14 x15 x16 x17 x18 x19 =
 ((g90 x0).bind fun (r20:Bool)=>
 if r20=true then
 (g97 x1 x2 x3).bind fun (r21:Bool)=>
 if r21=true then
 (g97 x11 x12 x13).bind fun (r22:Bool)=>
 if r22=true then
 (g98 x4 x5 x6 x7 x8 x9).bind fun (r23:Bool)=>
 if r23=true then
 (g98 x14 x15 x16 x17 x18 x19).bind fun (r24:Bool)=>
 some (r24)
 else
 some (false)
 else
 some (false)
 else
 some (false)
 else
 some (false)):=by kernel_rfl
noncomputable def F99:Fn:=⟨29,[2],[(2,[(0,.c (.slice 2)),(3,.c (.int .i64))])],[],0,[],[],Tryz.f99,[.c (.slice 2)],[.c (.bool)],[(100,Zss.S),(90,F90.S)]⟩
noncomputable def g99 (x0:LL):Option (Bool):=F99.S.g [.l x0]
noncomputable def ZiD (k:Nat) (x0:LL) (x1:Int):Option (Bool):=F99.lp [0] 0 r0 k [.l x0,.i x1]
theorem Zkd (k:Nat) (x0:LL) (x1:Int):ZiD (k+1) x0 x1 =
 (if (cop .lss x1 (List.length x0:Int))=true then
 Zi x0 x1 [.int .i64,.int .i64] fun (r2:Int×Int)=>
 (Zre r2.1).bind fun (r4:Bool)=>
 if (!r4)=true then
 some (false)
 else
 Zi x0 x1 [.int .i64,.int .i64] fun (r5:Int×Int)=>
 (g90 r5.2).bind fun (r7:Bool)=>
 if (!r7)=true then
 some (false)
 else
 ZiD k x0 (iop .add .i64 x1 1)
 else
 some ((cop .leq (List.length x0:Int) 16))):=by kernel_rfl
theorem Ztr (x0:LL):g99 x0 =
 (ZiD Zx x0 0):=by kernel_rfl
noncomputable def Zys:Fn:=⟨38,[4],[],[],0,[],[],Tryz.f102,[.agg hs3,.agg hs3],[.c (.bool)],[(19,F19.S)]⟩
noncomputable def ZvN (x0 x1 x2 x3 x4 x5 x6 x7 x8 x9 x10 x11 x12 x13 x14 x15 x16 x17 x18 x19:Int) (x20:LL) (x21 x22 x23 x24 x25 x26:Int) (x27:Bool) (x28 x29 x30 x31 x32 x33 x34 x35 x36 x37 x38 x39 x40 x41 x42 x43 x44 x45 x46 x47:Int) (x48:LL) (x49 x50 x51 x52 x53 x54:Int) (x55:Bool):Option (Bool):=Zys.S.g [.i x0,.i x1,.i x2,.i x3,.i x4,.i x5,.i x6,.i x7,.i x8,.i x9,.i x10,.i x11,.i x12,.i x13,.i x14,.i x15,.i x16,.i x17,.i x18,.i x19,.l x20,.i x21,.i x22,.i x23,.i x24,.i x25,.i x26,.b x27,.i x28,.i x29,.i x30,.i x31,.i x32,.i x33,.i x34,.i x35,.i x36,.i x37,.i x38,.i x39,.i x40,.i x41,.i x42,.i x43,.i x44,.i x45,.i x46,.i x47,.l x48,.i x49,.i x50,.i x51,.i x52,.i x53,.i x54,.b x55]
theorem Zqf (x0 x1 x2 x3 x4 x5 x6 x7 x8 x9 x10 x11 x12 x13 x14 x15 x16 x17 x18 x19:Int) (x20:LL) (x21 x22 x23 x24 x25 x26:Int) (x27:Bool) (x28 x29 x30 x31 x32 x33 x34 x35 x36 x37 x38 x39 x40 x41 x42 x43 x44 x45 x46 x47:Int) (x48:LL) (x49 x50 x51 x52 x53 x54:Int) (x55:Bool):ZvN x0 x1 x2 x3 x4 x5 x6 x7 x8 x9 x10 x11 x12 x13 x14 x15 x16 x17 x18 x19 x20 x21 x22 x23 x24 x25 x26 x27 x28 x29 x30 x31 x32 x33 x34 x35 x36 x37 x38 x39 x40 x41 x42 x43 x44 x45 x46 x47 x48 x49 x50 x51 x52 x53 x54 x55 =
 (if ((cop .eql x0 x28)&&((cop .eql x1 x29)&&((cop .eql x2 x30)&&true)))=true then
 if ((cop .eql x3 x31)&&((cop .eql x4 x32)&&((cop .eql x5 x33)&&((cop .eql x6 x34)&&((cop .eql x7 x35)&&((cop .eql x8 x36)&&((cop .eql x9 x37)&&((cop .eql x10 x38)&&((cop .eql x11 x39)&&((cop .eql x12 x40)&&((cop .eql x13 x41)&&((cop .eql x14 x42)&&true))))))))))))=true then
 if (cop .eql x15 x43)=true then
 if (cop .eql x16 x44)=true then
 (g19 x17 x18 x19 x20 x21 x22 x23 x24 x25 x26 x27 x45 x46 x47 x48 x49 x50 x51 x52 x53 x54 x55).bind fun (r56:Bool)=>
 some (r56)
 else
 some (false)
 else
 some (false)
 else
 some (false)
 else
 some (false)):=by kernel_rfl
noncomputable def ZxD:Fn:=⟨27,[4],[(4,[(0,.c (.slice 11)),(1,.c (.slice 11)),(5,.c (.int .i64))])],[],0,[],[],Tryz.f103,[.c (.slice 11),.c (.slice 11)],[.c (.bool)],[(19,F19.S)]⟩
noncomputable def Zxy (x0 x1:LL):Option (Bool):=ZxD.S.g [.l x0,.l x1]
noncomputable def Zhr (k:Nat) (x0 x1:LL) (x2:Int):Option (Bool):=ZxD.lp [1,0] 0 r0 k [.l x0,.l x1,.i x2]
theorem ZgR (k:Nat) (x0 x1:LL) (x2:Int):Zhr (k+1) x0 x1 x2 =
 (if (cop .lss x2 (List.length x0:Int))=true then
 Zi x0 x2 hs8 fun (r3:Qt17)=>
 Zi x1 x2 hs8 fun (r14:Qt17)=>
 (g19 r3.1 r3.2.1 r3.2.2.1 r3.2.2.2.1 r3.2.2.2.2.1 r3.2.2.2.2.2.1 r3.2.2.2.2.2.2.1 r3.2.2.2.2.2.2.2.1 r3.2.2.2.2.2.2.2.2.1 r3.2.2.2.2.2.2.2.2.2.1 r3.2.2.2.2.2.2.2.2.2.2 r14.1 r14.2.1 r14.2.2.1 r14.2.2.2.1 r14.2.2.2.2.1 r14.2.2.2.2.2.1 r14.2.2.2.2.2.2.1 r14.2.2.2.2.2.2.2.1 r14.2.2.2.2.2.2.2.2.1 r14.2.2.2.2.2.2.2.2.2.1 r14.2.2.2.2.2.2.2.2.2.2).bind fun (r25:Bool)=>
 if (!r25)=true then
 some (false)
 else
 Zhr k x0 x1 (iop .add .i64 x2 1)
 else
 some (true)):=by kernel_rfl
theorem Zru (x0 x1:LL):Zxy x0 x1 =
 (if (cop .neq (List.length x0:Int) (List.length x1:Int))=true then
 some (false)
 else
 Zhr Zx x0 x1 0):=by kernel_rfl
noncomputable def ZvG:Fn:=⟨26,[4],[(4,[(0,.c (.slice 1)),(1,.c (.slice 1)),(5,.c (.int .i64))])],[],0,[],[],Tryz.f104,[.c (.slice 1),.c (.slice 1)],[.c (.bool)],[]⟩
noncomputable def Zuf (x0 x1:LL):Option (Bool):=ZvG.S.g [.l x0,.l x1]
noncomputable def Zhd (k:Nat) (x0 x1:LL) (x2:Int):Option (Bool):=ZvG.lp [1,0] 0 r0 k [.l x0,.l x1,.i x2]
theorem Zhq (k:Nat) (x0 x1:LL) (x2:Int):Zhd (k+1) x0 x1 x2 =
 (if (cop .lss x2 (List.length x0:Int))=true then
 Zi x0 x2 [.int .i64] fun (r3:Int)=>
 Zi x1 x2 [.int .i64] fun (r4:Int)=>
 if (cop .neq r3 r4)=true then
 some (false)
 else
 Zhd k x0 x1 (iop .add .i64 x2 1)
 else
 some (true)):=by kernel_rfl
theorem Zp3 (x0 x1:LL):Zuf x0 x1 =
 (if (cop .neq (List.length x0:Int) (List.length x1:Int))=true then
 some (false)
 else
 Zhd Zx x0 x1 0):=by kernel_rfl
noncomputable def ZwI:Fn:=⟨26,[4],[(4,[(0,.c (.slice 2)),(1,.c (.slice 2)),(5,.c (.int .i64))])],[],0,[],[],Tryz.f105,[.c (.slice 2),.c (.slice 2)],[.c (.bool)],[]⟩
noncomputable def Zx6 (x0 x1:LL):Option (Bool):=ZwI.S.g [.l x0,.l x1]
noncomputable def Zgg (k:Nat) (x0 x1:LL) (x2:Int):Option (Bool):=ZwI.lp [1,0] 0 r0 k [.l x0,.l x1,.i x2]
theorem Zg5 (k:Nat) (x0 x1:LL) (x2:Int):Zgg (k+1) x0 x1 x2 =
 (if (cop .lss x2 (List.length x0:Int))=true then
 Zi x0 x2 [.int .i64,.int .i64] fun (r3:Int×Int)=>
 Zi x1 x2 [.int .i64,.int .i64] fun (r5:Int×Int)=>
 if (!((cop .eql r3.1 r5.1)&&((cop .eql r3.2 r5.2)&&true)))=true then
 some (false)
 else
 Zgg k x0 x1 (iop .add .i64 x2 1)
 else
 some (true)):=by kernel_rfl
theorem Zqd (x0 x1:LL):Zx6 x0 x1 =
 (if (cop .neq (List.length x0:Int) (List.length x1:Int))=true then
 some (false)
 else
 Zgg Zx x0 x1 0):=by kernel_rfl
noncomputable def ZwT:Fn:=⟨24,[4],[],[],0,[],[],Tryz.f106,[.agg [.int .i64,.slice 1,.slice 1],.agg [.int .i64,.slice 1,.slice 1]],[.c (.bool)],[(104,ZvG.S)]⟩
noncomputable def Ztl (x0:Int) (x1 x2:LL) (x3:Int) (x4 x5:LL):Option (Bool):=ZwT.S.g [.i x0,.l x1,.l x2,.i x3,.l x4,.l x5]
theorem Zp9 (x0:Int) (x1 x2:LL) (x3:Int) (x4 x5:LL):Ztl x0 x1 x2 x3 x4 x5 =
 (if (cop .eql x0 x3)=true then
 (Zuf x1 x4).bind fun (r6:Bool)=>
 if r6=true then
 (Zuf x2 x5).bind fun (r7:Bool)=>
 some (r7)
 else
 some (false)
 else
 some (false)):=by kernel_rfl
noncomputable def F22:Fn:=⟨55,[4],[(4,[(0,.c (.slice 15)),(1,.c (.slice 15)),(5,.c (.int .i64))])],[],0,[],[],Tryz.f22,[.c (.slice 15),.c (.slice 15)],[.c (.bool)],[(19,F19.S)]⟩
theorem ZAl:F22.S.Ok Tryz.prog 22:=F22.ok Tryz.func22 (by kernel_rfl) ⟨Zzh,trivial⟩
noncomputable def g22 (x0 x1:LL):Option (Bool):=F22.S.g [.l x0,.l x1]
noncomputable def Zne (k:Nat) (x0 x1:LL) (x2:Int):Option (Bool):=F22.lp [1,0] 0 r0 k [.l x0,.l x1,.i x2]
theorem Zjr (k:Nat) (x0 x1:LL) (x2:Int):Zne (k+1) x0 x1 x2 =
 (if (cop .lss x2 (List.length x0:Int))=true then
 Zi x0 x2 hs6 fun (r3:Qt11)=>
 Zi x1 x2 hs6 fun (r18:Qt11)=>
 if (cop .neq r3.2.2.2.2.2.2.2.2.2.2.2.1 r18.2.2.2.2.2.2.2.2.2.2.2.1)=true then
 some (false)
 else
 Zi x0 x2 hs6 fun (r33:Qt11)=>
 Zi x1 x2 hs6 fun (r48:Qt11)=>
 if (!((cop .eql (d4 (d8 r33)).1 (d4 (d8 r48)).1)&&((cop .eql (d4 (d8 r33)).2.1 (d4 (d8 r48)).2.1)&&((cop .eql (d2 (d4 (d8 r33))) (d2 (d4 (d8 r48))))&&true))))=true then
 some (false)
 else
 Zi x0 x2 hs6 fun (r63:Qt11)=>
 Zi x1 x2 hs6 fun (r78:Qt11)=>
 (g19 r63.1 r63.2.1 r63.2.2.1 r63.2.2.2.1 r63.2.2.2.2.1 r63.2.2.2.2.2.1 r63.2.2.2.2.2.2.1 r63.2.2.2.2.2.2.2.1 r63.2.2.2.2.2.2.2.2.1 r63.2.2.2.2.2.2.2.2.2.1 r63.2.2.2.2.2.2.2.2.2.2.1 r78.1 r78.2.1 r78.2.2.1 r78.2.2.2.1 r78.2.2.2.2.1 r78.2.2.2.2.2.1 r78.2.2.2.2.2.2.1 r78.2.2.2.2.2.2.2.1 r78.2.2.2.2.2.2.2.2.1 r78.2.2.2.2.2.2.2.2.2.1 r78.2.2.2.2.2.2.2.2.2.2.1).bind fun (r93:Bool)=>
 if (!r93)=true then
 some (false)
 else
 Zne k x0 x1 (iop .add .i64 x2 1)
 else
 some (true)):=by kernel_rfl
theorem ZuW (x0 x1:LL):g22 x0 x1 =
 (if (cop .neq (List.length x0:Int) (List.length x1:Int))=true then
 some (false)
 else
 Zne Zx x0 x1 0):=by kernel_rfl
noncomputable def ZxQ:Fn:=⟨27,[4],[(4,[(0,.c (.slice 28)),(1,.c (.slice 28)),(5,.c (.int .i64))])],[],0,[],[],Tryz.f145,[.c (.slice 28),.c (.slice 28)],[.c (.bool)],[(102,Zys.S)]⟩
noncomputable def Zxn (x0 x1:LL):Option (Bool):=ZxQ.S.g [.l x0,.l x1]
noncomputable def Zgf (k:Nat) (x0 x1:LL) (x2:Int):Option (Bool):=ZxQ.lp [1,0] 0 r0 k [.l x0,.l x1,.i x2]
theorem Zhn (k:Nat) (x0 x1:LL) (x2:Int):Zgf (k+1) x0 x1 x2 =
 (if (cop .lss x2 (List.length x0:Int))=true then
 Zi x0 x2 hs3 fun (r3:Qt5)=>
 Zi x1 x2 hs3 fun (r31:Qt5)=>
 (ZvN r3.1 r3.2.1 r3.2.2.1 r3.2.2.2.1 r3.2.2.2.2.1 r3.2.2.2.2.2.1 r3.2.2.2.2.2.2.1 r3.2.2.2.2.2.2.2.1 r3.2.2.2.2.2.2.2.2.1 r3.2.2.2.2.2.2.2.2.2.1 r3.2.2.2.2.2.2.2.2.2.2.1 r3.2.2.2.2.2.2.2.2.2.2.2.1 (d4 (d8 r3)).1 (d4 (d8 r3)).2.1 (d2 (d4 (d8 r3))).1 (d2 (d4 (d8 r3))).2.1 (d16 r3).1 (d16 r3).2.1 (d2 (d16 r3)).1 (d2 (d16 r3)).2.1 (d4 (d16 r3)).1 (d4 (d16 r3)).2.1 (d2 (d4 (d16 r3))).1 (d2 (d4 (d16 r3))).2.1 (d8 (d16 r3)).1 (d8 (d16 r3)).2.1 (d2 (d8 (d16 r3))).1 (d2 (d8 (d16 r3))).2 r31.1 r31.2.1 r31.2.2.1 r31.2.2.2.1 r31.2.2.2.2.1 r31.2.2.2.2.2.1 r31.2.2.2.2.2.2.1 r31.2.2.2.2.2.2.2.1 r31.2.2.2.2.2.2.2.2.1 r31.2.2.2.2.2.2.2.2.2.1 r31.2.2.2.2.2.2.2.2.2.2.1 r31.2.2.2.2.2.2.2.2.2.2.2.1 (d4 (d8 r31)).1 (d4 (d8 r31)).2.1 (d2 (d4 (d8 r31))).1 (d2 (d4 (d8 r31))).2.1 (d16 r31).1 (d16 r31).2.1 (d2 (d16 r31)).1 (d2 (d16 r31)).2.1 (d4 (d16 r31)).1 (d4 (d16 r31)).2.1 (d2 (d4 (d16 r31))).1 (d2 (d4 (d16 r31))).2.1 (d8 (d16 r31)).1 (d8 (d16 r31)).2.1 (d2 (d8 (d16 r31))).1 (d2 (d8 (d16 r31))).2).bind fun (r59:Bool)=>
 if (!r59)=true then
 some (false)
 else
 Zgf k x0 x1 (iop .add .i64 x2 1)
 else
 some (true)):=by kernel_rfl
theorem Zrr (x0 x1:LL):Zxn x0 x1 =
 (if (cop .neq (List.length x0:Int) (List.length x1:Int))=true then
 some (false)
 else
 Zgf Zx x0 x1 0):=by kernel_rfl
noncomputable def F36:Fn:=⟨26,[4],[(4,[(0,.c (.slice 4)),(1,.c (.slice 4)),(5,.c (.int .i64))])],[],0,[],[],Tryz.f36,[.c (.slice 4),.c (.slice 4)],[.c (.bool)],[]⟩
noncomputable def g36 (x0 x1:LL):Option (Bool):=F36.S.g [.l x0,.l x1]
noncomputable def Zl9 (k:Nat) (x0 x1:LL) (x2:Int):Option (Bool):=F36.lp [1,0] 0 r0 k [.l x0,.l x1,.i x2]
theorem Zjs (k:Nat) (x0 x1:LL) (x2:Int):Zl9 (k+1) x0 x1 x2 =
 (if (cop .lss x2 (List.length x0:Int))=true then
 Zi x0 x2 [.int .i64,.int .i64,.int .i64,.int .i64] fun (r3:Int×Int×Int×Int)=>
 Zi x1 x2 [.int .i64,.int .i64,.int .i64,.int .i64] fun (r7:Int×Int×Int×Int)=>
 if (!((cop .eql r3.1 r7.1)&&((cop .eql r3.2.1 r7.2.1)&&((cop .eql r3.2.2.1 r7.2.2.1)&&((cop .eql r3.2.2.2 r7.2.2.2)&&true)))))=true then
 some (false)
 else
 Zl9 k x0 x1 (iop .add .i64 x2 1)
 else
 some (true)):=by kernel_rfl
theorem ZuR (x0 x1:LL):g36 x0 x1 =
 (if (cop .neq (List.length x0:Int) (List.length x1:Int))=true then
 some (false)
 else
 Zl9 Zx x0 x1 0):=by kernel_rfl
noncomputable def Zwn:Fn:=⟨26,[4],[(4,[(0,.c (.slice 2)),(1,.c (.slice 2)),(5,.c (.int .i64))])],[],0,[],[],Tryz.f146,[.c (.slice 2),.c (.slice 2)],[.c (.bool)],[]⟩
noncomputable def Zv9 (x0 x1:LL):Option (Bool):=Zwn.S.g [.l x0,.l x1]
noncomputable def ZgE (k:Nat) (x0 x1:LL) (x2:Int):Option (Bool):=Zwn.lp [1,0] 0 r0 k [.l x0,.l x1,.i x2]
theorem Zgp (k:Nat) (x0 x1:LL) (x2:Int):ZgE (k+1) x0 x1 x2 =
 (if (cop .lss x2 (List.length x0:Int))=true then
 Zi x0 x2 [.int .i64,.int .i64] fun (r3:Int×Int)=>
 Zi x1 x2 [.int .i64,.int .i64] fun (r5:Int×Int)=>
 if (!((cop .eql r3.1 r5.1)&&((cop .eql r3.2 r5.2)&&true)))=true then
 some (false)
 else
 ZgE k x0 x1 (iop .add .i64 x2 1)
 else
 some (true)):=by kernel_rfl
theorem ZrB (x0 x1:LL):Zv9 x0 x1 =
 (if (cop .neq (List.length x0:Int) (List.length x1:Int))=true then
 some (false)
 else
 ZgE Zx x0 x1 0):=by kernel_rfl
noncomputable def Zyh:Fn:=⟨55,[4],[(4,[(0,.c (.slice 13)),(1,.c (.slice 13)),(5,.c (.int .i64))])],[],0,[],[],Tryz.f147,[.c (.slice 13),.c (.slice 13)],[.c (.bool)],[(19,F19.S)]⟩
noncomputable def ZxG (x0 x1:LL):Option (Bool):=Zyh.S.g [.l x0,.l x1]
noncomputable def ZgU (k:Nat) (x0 x1:LL) (x2:Int):Option (Bool):=Zyh.lp [1,0] 0 r0 k [.l x0,.l x1,.i x2]
theorem Zge (k:Nat) (x0 x1:LL) (x2:Int):ZgU (k+1) x0 x1 x2 =
 (if (cop .lss x2 (List.length x0:Int))=true then
 Zi x0 x2 hs7 fun (r3:Qt12)=>
 Zi x1 x2 hs7 fun (r16:Qt12)=>
 if (cop .neq r3.1 r16.1)=true then
 some (false)
 else
 Zi x0 x2 hs7 fun (r29:Qt12)=>
 Zi x1 x2 hs7 fun (r42:Qt12)=>
 if (cop .neq r29.2.1 r42.2.1)=true then
 some (false)
 else
 Zi x0 x2 hs7 fun (r55:Qt12)=>
 Zi x1 x2 hs7 fun (r68:Qt12)=>
 (g19 r55.2.2.1 r55.2.2.2.1 r55.2.2.2.2.1 r55.2.2.2.2.2.1 r55.2.2.2.2.2.2.1 r55.2.2.2.2.2.2.2.1 r55.2.2.2.2.2.2.2.2.1 r55.2.2.2.2.2.2.2.2.2.1 r55.2.2.2.2.2.2.2.2.2.2.1 r55.2.2.2.2.2.2.2.2.2.2.2.1 (d4 (d8 r55)) r68.2.2.1 r68.2.2.2.1 r68.2.2.2.2.1 r68.2.2.2.2.2.1 r68.2.2.2.2.2.2.1 r68.2.2.2.2.2.2.2.1 r68.2.2.2.2.2.2.2.2.1 r68.2.2.2.2.2.2.2.2.2.1 r68.2.2.2.2.2.2.2.2.2.2.1 r68.2.2.2.2.2.2.2.2.2.2.2.1 (d4 (d8 r68))).bind fun (r81:Bool)=>
 if (!r81)=true then
 some (false)
 else
 ZgU k x0 x1 (iop .add .i64 x2 1)
 else
 some (true)):=by kernel_rfl
theorem Zri (x0 x1:LL):ZxG x0 x1 =
 (if (cop .neq (List.length x0:Int) (List.length x1:Int))=true then
 some (false)
 else
 ZgU Zx x0 x1 0):=by kernel_rfl
noncomputable def ZxX:Fn:=⟨45,[4],[],[],0,[],[],Tryz.f107,[.agg hs16,.agg hs16],[.c (.bool)],[(22,F22.S),(145,ZxQ.S),(36,F36.S),(146,Zwn.S),(147,Zyh.S),(46,F46.S)]⟩
noncomputable def ZtN (x0 x1 x2 x3 x4 x5 x6 x7 x8 x9 x10 x11:LL):Option (Bool):=ZxX.S.g [.l x0,.l x1,.l x2,.l x3,.l x4,.l x5,.l x6,.l x7,.l x8,.l x9,.l x10,.l x11]
theorem Zrk (x0 x1 x2 x3 x4 x5 x6 x7 x8 x9 x10 x11:LL):ZtN x0 x1 x2 x3 x4 x5 x6 x7 x8 x9 x10 x11 =
 ((g22 x0 x6).bind fun (r12:Bool)=>
 if r12=true then
 (Zxn x1 x7).bind fun (r13:Bool)=>
 if r13=true then
 (g36 x2 x8).bind fun (r14:Bool)=>
 if r14=true then
 (Zv9 x3 x9).bind fun (r15:Bool)=>
 if r15=true then
 (ZxG x4 x10).bind fun (r16:Bool)=>
 if r16=true then
 (g46 x5 x11).bind fun (r17:Bool)=>
 some (r17)
 else
 some (false)
 else
 some (false)
 else
 some (false)
 else
 some (false)
 else
 some (false)):=by kernel_rfl
noncomputable def ZyG:Fn:=⟨45,[4],[],[],0,[],[],Tryz.f108,[.agg hs4,.agg hs4],[.c (.bool)],[(106,ZwT.S),(107,ZxX.S)]⟩
noncomputable def ZwA (x0 x1:Int) (x2 x3 x4 x5 x6 x7 x8 x9:LL) (x10:Bool) (x11:Int) (x12 x13 x14 x15 x16 x17 x18 x19:LL) (x20 x21:Int) (x22 x23 x24 x25 x26 x27 x28 x29:LL) (x30:Bool) (x31:Int) (x32 x33 x34 x35 x36 x37 x38 x39:LL):Option (Bool):=ZyG.S.g [.i x0,.i x1,.l x2,.l x3,.l x4,.l x5,.l x6,.l x7,.l x8,.l x9,.b x10,.i x11,.l x12,.l x13,.l x14,.l x15,.l x16,.l x17,.l x18,.l x19,.i x20,.i x21,.l x22,.l x23,.l x24,.l x25,.l x26,.l x27,.l x28,.l x29,.b x30,.i x31,.l x32,.l x33,.l x34,.l x35,.l x36,.l x37,.l x38,.l x39]
theorem Zr2 (x0 x1:Int) (x2 x3 x4 x5 x6 x7 x8 x9:LL) (x10:Bool) (x11:Int) (x12 x13 x14 x15 x16 x17 x18 x19:LL) (x20 x21:Int) (x22 x23 x24 x25 x26 x27 x28 x29:LL) (x30:Bool) (x31:Int) (x32 x33 x34 x35 x36 x37 x38 x39:LL):ZwA x0 x1 x2 x3 x4 x5 x6 x7 x8 x9 x10 x11 x12 x13 x14 x15 x16 x17 x18 x19 x20 x21 x22 x23 x24 x25 x26 x27 x28 x29 x30 x31 x32 x33 x34 x35 x36 x37 x38 x39 =
 (if (cop .eql x0 x20)=true then
 (Ztl x1 x2 x3 x21 x22 x23).bind fun (r40:Bool)=>
 if r40=true then
 (ZtN x4 x5 x6 x7 x8 x9 x24 x25 x26 x27 x28 x29).bind fun (r41:Bool)=>
 if r41=true then
 if (x10 == x30)=true then
 (Ztl x11 x12 x13 x31 x32 x33).bind fun (r42:Bool)=>
 if r42=true then
 (ZtN x14 x15 x16 x17 x18 x19 x34 x35 x36 x37 x38 x39).bind fun (r43:Bool)=>
 some (r43)
 else
 some (false)
 else
 some (false)
 else
 some (false)
 else
 some (false)
 else
 some (false)):=by kernel_rfl
noncomputable def F62:Fn:=⟨134,[4],[],[],0,[],[],Tryz.f62,[.agg hs0,.agg hs0],[.c (.bool)],[(102,Zys.S),(46,F46.S),(103,ZxD.S),(104,ZvG.S),(105,ZwI.S),(106,ZwT.S),(107,ZxX.S),(108,ZyG.S)]⟩
noncomputable def g62 (x0 x1 x2 x3 x4 x5 x6 x7 x8 x9 x10:Int) (x11:Bool) (x12 x13 x14 x15 x16 x17 x18 x19 x20 x21 x22 x23 x24 x25 x26 x27 x28 x29 x30 x31:Int) (x32:LL) (x33 x34 x35 x36 x37 x38:Int) (x39:Bool) (x40 x41 x42 x43:LL) (x44 x45:Int) (x46 x47 x48 x49 x50 x51 x52 x53:LL) (x54 x55:Int) (x56 x57 x58 x59 x60 x61 x62 x63:LL) (x64:Bool) (x65:Int) (x66 x67 x68 x69 x70 x71 x72 x73:LL) (x74 x75 x76 x77 x78 x79 x80 x81 x82 x83 x84:Int) (x85:Bool) (x86 x87 x88 x89 x90 x91 x92 x93 x94 x95 x96 x97 x98 x99 x100 x101 x102 x103 x104 x105:Int) (x106:LL) (x107 x108 x109 x110 x111 x112:Int) (x113:Bool) (x114 x115 x116 x117:LL) (x118 x119:Int) (x120 x121 x122 x123 x124 x125 x126 x127:LL) (x128 x129:Int) (x130 x131 x132 x133 x134 x135 x136 x137:LL) (x138:Bool) (x139:Int) (x140 x141 x142 x143 x144 x145 x146 x147:LL):Option (Bool):=F62.S.g [.i x0,.i x1,.i x2,.i x3,.i x4,.i x5,.i x6,.i x7,.i x8,.i x9,.i x10,.b x11,.i x12,.i x13,.i x14,.i x15,.i x16,.i x17,.i x18,.i x19,.i x20,.i x21,.i x22,.i x23,.i x24,.i x25,.i x26,.i x27,.i x28,.i x29,.i x30,.i x31,.l x32,.i x33,.i x34,.i x35,.i x36,.i x37,.i x38,.b x39,.l x40,.l x41,.l x42,.l x43,.i x44,.i x45,.l x46,.l x47,.l x48,.l x49,.l x50,.l x51,.l x52,.l x53,.i x54,.i x55,.l x56,.l x57,.l x58,.l x59,.l x60,.l x61,.l x62,.l x63,.b x64,.i x65,.l x66,.l x67,.l x68,.l x69,.l x70,.l x71,.l x72,.l x73,.i x74,.i x75,.i x76,.i x77,.i x78,.i x79,.i x80,.i x81,.i x82,.i x83,.i x84,.b x85,.i x86,.i x87,.i x88,.i x89,.i x90,.i x91,.i x92,.i x93,.i x94,.i x95,.i x96,.i x97,.i x98,.i x99,.i x100,.i x101,.i x102,.i x103,.i x104,.i x105,.l x106,.i x107,.i x108,.i x109,.i x110,.i x111,.i x112,.b x113,.l x114,.l x115,.l x116,.l x117,.i x118,.i x119,.l x120,.l x121,.l x122,.l x123,.l x124,.l x125,.l x126,.l x127,.i x128,.i x129,.l x130,.l x131,.l x132,.l x133,.l x134,.l x135,.l x136,.l x137,.b x138,.i x139,.l x140,.l x141,.l x142,.l x143,.l x144,.l x145,.l x146,.l x147]
theorem Ztv (x0 x1 x2 x3 x4 x5 x6 x7 x8 x9 x10:Int) (x11:Bool) (x12 x13 x14 x15 x16 x17 x18 x19 x20 x21 x22 x23 x24 x25 x26 x27 x28 x29 x30 x31:Int) (x32:LL) (x33 x34 x35 x36 x37 x38:Int) (x39:Bool) (x40 x41 x42 x43:LL) (x44 x45:Int) (x46 x47 x48 x49 x50 x51 x52 x53:LL) (x54 x55:Int) (x56 x57 x58 x59 x60 x61 x62 x63:LL) (x64:Bool) (x65:Int) (x66 x67 x68 x69 x70 x71 x72 x73:LL) (x74 x75 x76 x77 x78 x79 x80 x81 x82 x83 x84:Int) (x85:Bool) (x86 x87 x88 x89 x90 x91 x92 x93 x94 x95 x96 x97 x98 x99 x100 x101 x102 x103 x104 x105:Int) (x106:LL) (x107 x108 x109 x110 x111 x112:Int) (x113:Bool) (x114 x115 x116 x117:LL) (x118 x119:Int) (x120 x121 x122 x123 x124 x125 x126 x127:LL) (x128 x129:Int) (x130 x131 x132 x133 x134 x135 x136 x137:LL) (x138:Bool) (x139:Int) (x140 x141 x142 x143 x144 x145 x146 x147:LL):g62 x0 x1 x2 x3 x4 x5 x6 x7 x8 x9 x10 x11 x12 x13 x14 x15 x16 x17 x18 x19 x20 x21 x22 x23 x24 x25 x26 x27 x28 x29 x30 x31 x32 x33 x34 x35 x36 x37 x38 x39 x40 x41 x42 x43 x44 x45 x46 x47 x48 x49 x50 x51 x52 x53 x54 x55 x56 x57 x58 x59 x60 x61 x62 x63 x64 x65 x66 x67 x68 x69 x70 x71 x72 x73 x74 x75 x76 x77 x78 x79 x80 x81 x82 x83 x84 x85 x86 x87 x88 x89 x90 x91 x92 x93 x94 x95 x96 x97 x98 x99 x100 x101 x102 x103 x104 x105 x106 x107 x108 x109 x110 x111 x112 x113 x114 x115 x116 x117 x118 x119 x120 x121 x122 x123 x124 x125 x126 x127 x128 x129 x130 x131 x132 x133 x134 x135 x136 x137 x138 x139 x140 x141 x142 x143 x144 x145 x146 x147 =
 (if (cop .neq x0 x74)=true then
 some (false)
 else
 if (cop .neq x1 x75)=true then
 some (false)
 else
 if (cop .neq x2 x76)=true then
 some (false)
 else
 if (cop .neq x3 x77)=true then
 some (false)
 else
 if (cop .neq x4 x78)=true then
 some (false)
 else
 if (cop .neq x5 x79)=true then
 some (false)
 else
 if (cop .neq x6 x80)=true then
 some (false)
 else
 if (!((cop .eql x7 x81)&&((cop .eql x8 x82)&&((cop .eql x9 x83)&&true))))=true then
 some (false)
 else
 if (cop .neq x10 x84)=true then
 some (false)
 else
 if (!(x11 == x85))=true then
 some (false)
 else
 if (cop .neq x44 x118)=true then
 some (false)
 else
 (ZvN x12 x13 x14 x15 x16 x17 x18 x19 x20 x21 x22 x23 x24 x25 x26 x27 x28 x29 x30 x31 x32 x33 x34 x35 x36 x37 x38 x39 x86 x87 x88 x89 x90 x91 x92 x93 x94 x95 x96 x97 x98 x99 x100 x101 x102 x103 x104 x105 x106 x107 x108 x109 x110 x111 x112 x113).bind fun (r148:Bool)=>
 if r148=true then
 (g46 x40 x114).bind fun (r149:Bool)=>
 if r149=true then
 (Zxy x41 x115).bind fun (r150:Bool)=>
 if r150=true then
 (Zuf x42 x116).bind fun (r151:Bool)=>
 if r151=true then
 (Zx6 x43 x117).bind fun (r152:Bool)=>
 if r152=true then
 (Ztl x45 x46 x47 x119 x120 x121).bind fun (r153:Bool)=>
 if r153=true then
 (ZtN x48 x49 x50 x51 x52 x53 x122 x123 x124 x125 x126 x127).bind fun (r154:Bool)=>
 if r154=true then
 (ZwA x54 x55 x56 x57 x58 x59 x60 x61 x62 x63 x64 x65 x66 x67 x68 x69 x70 x71 x72 x73 x128 x129 x130 x131 x132 x133 x134 x135 x136 x137 x138 x139 x140 x141 x142 x143 x144 x145 x146 x147).bind fun (r155:Bool)=>
 some (r155)
 else
 some (false)
 else
 some (false)
 else
 some (false)
 else
 some (false)
 else
 some (false)
 else
 some (false)
 else
 some (false)):=by kernel_rfl
noncomputable def F56:Fn:=⟨295,[2],[(60,[(1,.box hs0),(3,.box hs0),(4,.c (.bool)),(5,.c (.int .i64))])],[],0,[],[],Tryz.f56,[.agg hs0],[.c (.bool)],[(89,F89.S),(90,F90.S),(91,F91.S),(87,F87.S),(100,Zss.S),(62,F62.S),(92,F92.S),(93,F93.S),(94,F94.S),(95,F95.S),(96,F96.S),(97,F97.S),(98,F98.S),(99,F99.S)]⟩
noncomputable def g56 (x0 x1 x2 x3 x4 x5 x6 x7 x8 x9 x10:Int) (x11:Bool) (x12 x13 x14 x15 x16 x17 x18 x19 x20 x21 x22 x23 x24 x25 x26 x27 x28 x29 x30 x31:Int) (x32:LL) (x33 x34 x35 x36 x37 x38:Int) (x39:Bool) (x40 x41 x42 x43:LL) (x44 x45:Int) (x46 x47 x48 x49 x50 x51 x52 x53:LL) (x54 x55:Int) (x56 x57 x58 x59 x60 x61 x62 x63:LL) (x64:Bool) (x65:Int) (x66 x67 x68 x69 x70 x71 x72 x73:LL):Option (Bool):=F56.S.g [.i x0,.i x1,.i x2,.i x3,.i x4,.i x5,.i x6,.i x7,.i x8,.i x9,.i x10,.b x11,.i x12,.i x13,.i x14,.i x15,.i x16,.i x17,.i x18,.i x19,.i x20,.i x21,.i x22,.i x23,.i x24,.i x25,.i x26,.i x27,.i x28,.i x29,.i x30,.i x31,.l x32,.i x33,.i x34,.i x35,.i x36,.i x37,.i x38,.b x39,.l x40,.l x41,.l x42,.l x43,.i x44,.i x45,.l x46,.l x47,.l x48,.l x49,.l x50,.l x51,.l x52,.l x53,.i x54,.i x55,.l x56,.l x57,.l x58,.l x59,.l x60,.l x61,.l x62,.l x63,.b x64,.i x65,.l x66,.l x67,.l x68,.l x69,.l x70,.l x71,.l x72,.l x73]
noncomputable def Yw (k:Nat) (x0 x1 x2 x3 x4 x5 x6 x7 x8 x9 x10:Int) (x11:Bool) (x12 x13 x14 x15 x16 x17 x18 x19 x20 x21 x22 x23 x24 x25 x26 x27 x28 x29 x30 x31:Int) (x32:LL) (x33 x34 x35 x36 x37 x38:Int) (x39:Bool) (x40 x41 x42 x43:LL) (x44 x45:Int) (x46 x47 x48 x49 x50 x51 x52 x53:LL) (x54 x55:Int) (x56 x57 x58 x59 x60 x61 x62 x63:LL) (x64:Bool) (x65:Int) (x66 x67 x68 x69 x70 x71 x72 x73:LL) (x74 x75 x76 x77 x78 x79 x80 x81 x82 x83 x84:Int) (x85:Bool) (x86 x87 x88 x89 x90 x91 x92 x93 x94 x95 x96 x97 x98 x99 x100 x101 x102 x103 x104 x105:Int) (x106:LL) (x107 x108 x109 x110 x111 x112:Int) (x113:Bool) (x114 x115 x116 x117:LL) (x118 x119:Int) (x120 x121 x122 x123 x124 x125 x126 x127:LL) (x128 x129:Int) (x130 x131 x132 x133 x134 x135 x136 x137:LL) (x138:Bool) (x139:Int) (x140 x141 x142 x143 x144 x145 x146 x147:LL) (x148:Bool) (x149:Int):Option (Bool):=F56.lp [1,1,0,1,0,1,0,1,0,2] 0 r0 k [.i x0,.i x1,.i x2,.i x3,.i x4,.i x5,.i x6,.i x7,.i x8,.i x9,.i x10,.b x11,.i x12,.i x13,.i x14,.i x15,.i x16,.i x17,.i x18,.i x19,.i x20,.i x21,.i x22,.i x23,.i x24,.i x25,.i x26,.i x27,.i x28,.i x29,.i x30,.i x31,.l x32,.i x33,.i x34,.i x35,.i x36,.i x37,.i x38,.b x39,.l x40,.l x41,.l x42,.l x43,.i x44,.i x45,.l x46,.l x47,.l x48,.l x49,.l x50,.l x51,.l x52,.l x53,.i x54,.i x55,.l x56,.l x57,.l x58,.l x59,.l x60,.l x61,.l x62,.l x63,.b x64,.i x65,.l x66,.l x67,.l x68,.l x69,.l x70,.l x71,.l x72,.l x73,.i x74,.i x75,.i x76,.i x77,.i x78,.i x79,.i x80,.i x81,.i x82,.i x83,.i x84,.b x85,.i x86,.i x87,.i x88,.i x89,.i x90,.i x91,.i x92,.i x93,.i x94,.i x95,.i x96,.i x97,.i x98,.i x99,.i x100,.i x101,.i x102,.i x103,.i x104,.i x105,.l x106,.i x107,.i x108,.i x109,.i x110,.i x111,.i x112,.b x113,.l x114,.l x115,.l x116,.l x117,.i x118,.i x119,.l x120,.l x121,.l x122,.l x123,.l x124,.l x125,.l x126,.l x127,.i x128,.i x129,.l x130,.l x131,.l x132,.l x133,.l x134,.l x135,.l x136,.l x137,.b x138,.i x139,.l x140,.l x141,.l x142,.l x143,.l x144,.l x145,.l x146,.l x147,.b x148,.i x149]
theorem Zkm (k:Nat) (x0 x1 x2 x3 x4 x5 x6 x7 x8 x9 x10:Int) (x11:Bool) (x12 x13 x14 x15 x16 x17 x18 x19 x20 x21 x22 x23 x24 x25 x26 x27 x28 x29 x30 x31:Int) (x32:LL) (x33 x34 x35 x36 x37 x38:Int) (x39:Bool) (x40 x41 x42 x43:LL) (x44 x45:Int) (x46 x47 x48 x49 x50 x51 x52 x53:LL) (x54 x55:Int) (x56 x57 x58 x59 x60 x61 x62 x63:LL) (x64:Bool) (x65:Int) (x66 x67 x68 x69 x70 x71 x72 x73:LL) (x74 x75 x76 x77 x78 x79 x80 x81 x82 x83 x84:Int) (x85:Bool) (x86 x87 x88 x89 x90 x91 x92 x93 x94 x95 x96 x97 x98 x99 x100 x101 x102 x103 x104 x105:Int) (x106:LL) (x107 x108 x109 x110 x111 x112:Int) (x113:Bool) (x114 x115 x116 x117:LL) (x118 x119:Int) (x120 x121 x122 x123 x124 x125 x126 x127:LL) (x128 x129:Int) (x130 x131 x132 x133 x134 x135 x136 x137:LL) (x138:Bool) (x139:Int) (x140 x141 x142 x143 x144 x145 x146 x147:LL) (x148:Bool) (x149:Int):Yw (k+1) x0 x1 x2 x3 x4 x5 x6 x7 x8 x9 x10 x11 x12 x13 x14 x15 x16 x17 x18 x19 x20 x21 x22 x23 x24 x25 x26 x27 x28 x29 x30 x31 x32 x33 x34 x35 x36 x37 x38 x39 x40 x41 x42 x43 x44 x45 x46 x47 x48 x49 x50 x51 x52 x53 x54 x55 x56 x57 x58 x59 x60 x61 x62 x63 x64 x65 x66 x67 x68 x69 x70 x71 x72 x73 x74 x75 x76 x77 x78 x79 x80 x81 x82 x83 x84 x85 x86 x87 x88 x89 x90 x91 x92 x93 x94 x95 x96 x97 x98 x99 x100 x101 x102 x103 x104 x105 x106 x107 x108 x109 x110 x111 x112 x113 x114 x115 x116 x117 x118 x119 x120 x121 x122 x123 x124 x125 x126 x127 x128 x129 x130 x131 x132 x133 x134 x135 x136 x137 x138 x139 x140 x141 x142 x143 x144 x145 x146 x147 x148 x149 =
 (if (cop .lss x149 (List.length x41:Int))=true then
 if x148=true then
 Zi x41 x149 hs8 fun (r150:Qt17)=>
 (g87 r150.1 r150.2.1 r150.2.2.1 r150.2.2.2.1 r150.2.2.2.2.1 r150.2.2.2.2.2.1 r150.2.2.2.2.2.2.1 r150.2.2.2.2.2.2.2.1 r150.2.2.2.2.2.2.2.2.1 r150.2.2.2.2.2.2.2.2.2.1 r150.2.2.2.2.2.2.2.2.2.2).bind fun (r161:Bool)=>
 Yw k x0 x1 x2 x3 x4 x5 x6 x7 x8 x9 x10 x11 x12 x13 x14 x15 x16 x17 x18 x19 x20 x21 x22 x23 x24 x25 x26 x27 x28 x29 x30 x31 x32 x33 x34 x35 x36 x37 x38 x39 x40 x41 x42 x43 x44 x45 x46 x47 x48 x49 x50 x51 x52 x53 x54 x55 x56 x57 x58 x59 x60 x61 x62 x63 x64 x65 x66 x67 x68 x69 x70 x71 x72 x73 x74 x75 x76 x77 x78 x79 x80 x81 x82 x83 x84 x85 x86 x87 x88 x89 x90 x91 x92 x93 x94 x95 x96 x97 x98 x99 x100 x101 x102 x103 x104 x105 x106 x107 x108 x109 x110 x111 x112 x113 x114 x115 x116 x117 x118 x119 x120 x121 x122 x123 x124 x125 x126 x127 x128 x129 x130 x131 x132 x133 x134 x135 x136 x137 x138 x139 x140 x141 x142 x143 x144 x145 x146 x147 r161 (iop .add .i64 x149 1)
 else
 if x148=true then
 (Zre x5).bind fun (r150:Bool)=>
 if r150=true then
 (g62 x0 x1 x2 x3 x4 x5 x6 x7 x8 x9 x10 x11 x12 x13 x14 x15 x16 x17 x18 x19 x20 x21 x22 x23 x24 x25 x26 x27 x28 x29 x30 x31 x32 x33 x34 x35 x36 x37 x38 x39 x40 x41 x42 x43 x44 x45 x46 x47 x48 x49 x50 x51 x52 x53 x54 x55 x56 x57 x58 x59 x60 x61 x62 x63 x64 x65 x66 x67 x68 x69 x70 x71 x72 x73 x74 x75 x76 x77 x78 x79 x80 x81 x82 x83 x84 x85 x86 x87 x88 x89 x90 x91 x92 x93 x94 x95 x96 x97 x98 x99 x100 x101 x102 x103 x104 x105 x106 x107 x108 x109 x110 x111 x112 x113 x114 x115 x116 x117 x118 x119 x120 x121 x122 x123 x124 x125 x126 x127 x128 x129 x130 x131 x132 x133 x134 x135 x136 x137 x138 x139 x140 x141 x142 x143 x144 x145 x146 x147).bind fun (r151:Bool)=>
 some (r151)
 else
 some (false)
 else
 some (false)
 else
 if x148=true then
 (Zre x5).bind fun (r150:Bool)=>
 if r150=true then
 (g62 x0 x1 x2 x3 x4 x5 x6 x7 x8 x9 x10 x11 x12 x13 x14 x15 x16 x17 x18 x19 x20 x21 x22 x23 x24 x25 x26 x27 x28 x29 x30 x31 x32 x33 x34 x35 x36 x37 x38 x39 x40 x41 x42 x43 x44 x45 x46 x47 x48 x49 x50 x51 x52 x53 x54 x55 x56 x57 x58 x59 x60 x61 x62 x63 x64 x65 x66 x67 x68 x69 x70 x71 x72 x73 x74 x75 x76 x77 x78 x79 x80 x81 x82 x83 x84 x85 x86 x87 x88 x89 x90 x91 x92 x93 x94 x95 x96 x97 x98 x99 x100 x101 x102 x103 x104 x105 x106 x107 x108 x109 x110 x111 x112 x113 x114 x115 x116 x117 x118 x119 x120 x121 x122 x123 x124 x125 x126 x127 x128 x129 x130 x131 x132 x133 x134 x135 x136 x137 x138 x139 x140 x141 x142 x143 x144 x145 x146 x147).bind fun (r151:Bool)=>
 some (r151)
 else
 some (false)
 else
 some (false)):=by kernel_rfl
theorem Yr (x0 x1 x2 x3 x4 x5 x6 x7 x8 x9 x10:Int) (x11:Bool) (x12 x13 x14 x15 x16 x17 x18 x19 x20 x21 x22 x23 x24 x25 x26 x27 x28 x29 x30 x31:Int) (x32:LL) (x33 x34 x35 x36 x37 x38:Int) (x39:Bool) (x40 x41 x42 x43:LL) (x44 x45:Int) (x46 x47 x48 x49 x50 x51 x52 x53:LL) (x54 x55:Int) (x56 x57 x58 x59 x60 x61 x62 x63:LL) (x64:Bool) (x65:Int) (x66 x67 x68 x69 x70 x71 x72 x73:LL):g56 x0 x1 x2 x3 x4 x5 x6 x7 x8 x9 x10 x11 x12 x13 x14 x15 x16 x17 x18 x19 x20 x21 x22 x23 x24 x25 x26 x27 x28 x29 x30 x31 x32 x33 x34 x35 x36 x37 x38 x39 x40 x41 x42 x43 x44 x45 x46 x47 x48 x49 x50 x51 x52 x53 x54 x55 x56 x57 x58 x59 x60 x61 x62 x63 x64 x65 x66 x67 x68 x69 x70 x71 x72 x73 =
 (if (cop .lss x0 1)=true then
 some (false)
 else
 if (cop .gtr x0 17)=true then
 some (false)
 else
 (g89 x1).bind fun (r74:Bool)=>
 if (!r74)=true then
 some (false)
 else
 (g90 x2).bind fun (r75:Bool)=>
 if (!r75)=true then
 some (false)
 else
 (g90 x3).bind fun (r76:Bool)=>
 if (!r76)=true then
 some (false)
 else
 if (cop .eql x0 1)=true then
 (g91 x12 x13 x14 x15 x16 x17 x18 x19 x20 x21 x22 x23 x24 x25 x26 x27 x28 x29 x30 x31 x32 x33 x34 x35 x36 x37 x38 x39).bind fun (r77:Bool)=>
 Yw Zx x0 x1 x2 x3 x4 x5 x6 x7 x8 x9 x10 x11 x12 x13 x14 x15 x16 x17 x18 x19 x20 x21 x22 x23 x24 x25 x26 x27 x28 x29 x30 x31 x32 x33 x34 x35 x36 x37 x38 x39 x40 x41 x42 x43 x44 x45 x46 x47 x48 x49 x50 x51 x52 x53 x54 x55 x56 x57 x58 x59 x60 x61 x62 x63 x64 x65 x66 x67 x68 x69 x70 x71 x72 x73 x0 x1 x2 x3 0 x5 0 0 0 0 0 false x12 x13 x14 x15 x16 x17 x18 x19 x20 x21 x22 x23 x24 x25 x26 x27 x28 x29 x30 x31 x32 x33 x34 x35 x36 x37 x38 x39 E0 E0 E0 E0 0 0 E0 E0 E0 E0 E0 E0 E0 E0 0 0 E0 E0 E0 E0 E0 E0 E0 E0 false 0 E0 E0 E0 E0 E0 E0 E0 E0 r77 0
 else
 if (cop .eql x0 2)=true then
 (g92 x7 x8 x9).bind fun (r77:Bool)=>
 if r77=true then
 (g93 x10).bind fun (r78:Bool)=>
 if r78=true then
 Yw Zx x0 x1 x2 x3 x4 x5 x6 x7 x8 x9 x10 x11 x12 x13 x14 x15 x16 x17 x18 x19 x20 x21 x22 x23 x24 x25 x26 x27 x28 x29 x30 x31 x32 x33 x34 x35 x36 x37 x38 x39 x40 x41 x42 x43 x44 x45 x46 x47 x48 x49 x50 x51 x52 x53 x54 x55 x56 x57 x58 x59 x60 x61 x62 x63 x64 x65 x66 x67 x68 x69 x70 x71 x72 x73 x0 x1 x2 x3 0 x5 0 x7 x8 x9 x10 x11 0 0 0 0 0 0 0 0 0 0 0 0 0 0 0 0 0 0 0 0 E0 0 0 0 0 0 0 false E0 x41 E0 E0 0 0 E0 E0 E0 E0 E0 E0 E0 E0 0 0 E0 E0 E0 E0 E0 E0 E0 E0 false 0 E0 E0 E0 E0 E0 E0 E0 E0 (cop .leq (List.length x41:Int) 8) 0
 else
 Yw Zx x0 x1 x2 x3 x4 x5 x6 x7 x8 x9 x10 x11 x12 x13 x14 x15 x16 x17 x18 x19 x20 x21 x22 x23 x24 x25 x26 x27 x28 x29 x30 x31 x32 x33 x34 x35 x36 x37 x38 x39 x40 x41 x42 x43 x44 x45 x46 x47 x48 x49 x50 x51 x52 x53 x54 x55 x56 x57 x58 x59 x60 x61 x62 x63 x64 x65 x66 x67 x68 x69 x70 x71 x72 x73 x0 x1 x2 x3 0 x5 0 x7 x8 x9 x10 x11 0 0 0 0 0 0 0 0 0 0 0 0 0 0 0 0 0 0 0 0 E0 0 0 0 0 0 0 false E0 x41 E0 E0 0 0 E0 E0 E0 E0 E0 E0 E0 E0 0 0 E0 E0 E0 E0 E0 E0 E0 E0 false 0 E0 E0 E0 E0 E0 E0 E0 E0 false 0
 else
 Yw Zx x0 x1 x2 x3 x4 x5 x6 x7 x8 x9 x10 x11 x12 x13 x14 x15 x16 x17 x18 x19 x20 x21 x22 x23 x24 x25 x26 x27 x28 x29 x30 x31 x32 x33 x34 x35 x36 x37 x38 x39 x40 x41 x42 x43 x44 x45 x46 x47 x48 x49 x50 x51 x52 x53 x54 x55 x56 x57 x58 x59 x60 x61 x62 x63 x64 x65 x66 x67 x68 x69 x70 x71 x72 x73 x0 x1 x2 x3 0 x5 0 x7 x8 x9 x10 x11 0 0 0 0 0 0 0 0 0 0 0 0 0 0 0 0 0 0 0 0 E0 0 0 0 0 0 0 false E0 x41 E0 E0 0 0 E0 E0 E0 E0 E0 E0 E0 E0 0 0 E0 E0 E0 E0 E0 E0 E0 E0 false 0 E0 E0 E0 E0 E0 E0 E0 E0 false 0
 else
 if (cop .eql x0 4)=true then
 (g92 x7 x8 x9).bind fun (r77:Bool)=>
 if r77=true then
 if (cop .geq x6 0)=true then
 if (cop .lss x6 64)=true then
 Yw Zx x0 x1 x2 x3 x4 x5 x6 x7 x8 x9 x10 x11 x12 x13 x14 x15 x16 x17 x18 x19 x20 x21 x22 x23 x24 x25 x26 x27 x28 x29 x30 x31 x32 x33 x34 x35 x36 x37 x38 x39 x40 x41 x42 x43 x44 x45 x46 x47 x48 x49 x50 x51 x52 x53 x54 x55 x56 x57 x58 x59 x60 x61 x62 x63 x64 x65 x66 x67 x68 x69 x70 x71 x72 x73 x0 x1 x2 x3 0 x5 x6 x7 x8 x9 0 false 0 0 0 0 0 0 0 0 0 0 0 0 0 0 0 0 0 0 0 0 E0 0 0 0 0 0 0 false E0 x41 E0 E0 0 0 E0 E0 E0 E0 E0 E0 E0 E0 0 0 E0 E0 E0 E0 E0 E0 E0 E0 false 0 E0 E0 E0 E0 E0 E0 E0 E0 (cop .eql (List.length x41:Int) 1) 0
 else
 Yw Zx x0 x1 x2 x3 x4 x5 x6 x7 x8 x9 x10 x11 x12 x13 x14 x15 x16 x17 x18 x19 x20 x21 x22 x23 x24 x25 x26 x27 x28 x29 x30 x31 x32 x33 x34 x35 x36 x37 x38 x39 x40 x41 x42 x43 x44 x45 x46 x47 x48 x49 x50 x51 x52 x53 x54 x55 x56 x57 x58 x59 x60 x61 x62 x63 x64 x65 x66 x67 x68 x69 x70 x71 x72 x73 x0 x1 x2 x3 0 x5 x6 x7 x8 x9 0 false 0 0 0 0 0 0 0 0 0 0 0 0 0 0 0 0 0 0 0 0 E0 0 0 0 0 0 0 false E0 x41 E0 E0 0 0 E0 E0 E0 E0 E0 E0 E0 E0 0 0 E0 E0 E0 E0 E0 E0 E0 E0 false 0 E0 E0 E0 E0 E0 E0 E0 E0 false 0
 else
 Yw Zx x0 x1 x2 x3 x4 x5 x6 x7 x8 x9 x10 x11 x12 x13 x14 x15 x16 x17 x18 x19 x20 x21 x22 x23 x24 x25 x26 x27 x28 x29 x30 x31 x32 x33 x34 x35 x36 x37 x38 x39 x40 x41 x42 x43 x44 x45 x46 x47 x48 x49 x50 x51 x52 x53 x54 x55 x56 x57 x58 x59 x60 x61 x62 x63 x64 x65 x66 x67 x68 x69 x70 x71 x72 x73 x0 x1 x2 x3 0 x5 x6 x7 x8 x9 0 false 0 0 0 0 0 0 0 0 0 0 0 0 0 0 0 0 0 0 0 0 E0 0 0 0 0 0 0 false E0 x41 E0 E0 0 0 E0 E0 E0 E0 E0 E0 E0 E0 0 0 E0 E0 E0 E0 E0 E0 E0 E0 false 0 E0 E0 E0 E0 E0 E0 E0 E0 false 0
 else
 Yw Zx x0 x1 x2 x3 x4 x5 x6 x7 x8 x9 x10 x11 x12 x13 x14 x15 x16 x17 x18 x19 x20 x21 x22 x23 x24 x25 x26 x27 x28 x29 x30 x31 x32 x33 x34 x35 x36 x37 x38 x39 x40 x41 x42 x43 x44 x45 x46 x47 x48 x49 x50 x51 x52 x53 x54 x55 x56 x57 x58 x59 x60 x61 x62 x63 x64 x65 x66 x67 x68 x69 x70 x71 x72 x73 x0 x1 x2 x3 0 x5 x6 x7 x8 x9 0 false 0 0 0 0 0 0 0 0 0 0 0 0 0 0 0 0 0 0 0 0 E0 0 0 0 0 0 0 false E0 x41 E0 E0 0 0 E0 E0 E0 E0 E0 E0 E0 E0 0 0 E0 E0 E0 E0 E0 E0 E0 E0 false 0 E0 E0 E0 E0 E0 E0 E0 E0 false 0
 else
 if (cop .eql x0 5)=true then
 (g92 x7 x8 x9).bind fun (r77:Bool)=>
 if r77=true then
 (g93 x10).bind fun (r78:Bool)=>
 Yw Zx x0 x1 x2 x3 x4 x5 x6 x7 x8 x9 x10 x11 x12 x13 x14 x15 x16 x17 x18 x19 x20 x21 x22 x23 x24 x25 x26 x27 x28 x29 x30 x31 x32 x33 x34 x35 x36 x37 x38 x39 x40 x41 x42 x43 x44 x45 x46 x47 x48 x49 x50 x51 x52 x53 x54 x55 x56 x57 x58 x59 x60 x61 x62 x63 x64 x65 x66 x67 x68 x69 x70 x71 x72 x73 x0 x1 x2 x3 0 x5 0 x7 x8 x9 x10 false 0 0 0 0 0 0 0 0 0 0 0 0 0 0 0 0 0 0 0 0 E0 0 0 0 0 0 0 false E0 E0 E0 E0 0 0 E0 E0 E0 E0 E0 E0 E0 E0 0 0 E0 E0 E0 E0 E0 E0 E0 E0 false 0 E0 E0 E0 E0 E0 E0 E0 E0 r78 0
 else
 Yw Zx x0 x1 x2 x3 x4 x5 x6 x7 x8 x9 x10 x11 x12 x13 x14 x15 x16 x17 x18 x19 x20 x21 x22 x23 x24 x25 x26 x27 x28 x29 x30 x31 x32 x33 x34 x35 x36 x37 x38 x39 x40 x41 x42 x43 x44 x45 x46 x47 x48 x49 x50 x51 x52 x53 x54 x55 x56 x57 x58 x59 x60 x61 x62 x63 x64 x65 x66 x67 x68 x69 x70 x71 x72 x73 x0 x1 x2 x3 0 x5 0 x7 x8 x9 x10 false 0 0 0 0 0 0 0 0 0 0 0 0 0 0 0 0 0 0 0 0 E0 0 0 0 0 0 0 false E0 E0 E0 E0 0 0 E0 E0 E0 E0 E0 E0 E0 E0 0 0 E0 E0 E0 E0 E0 E0 E0 E0 false 0 E0 E0 E0 E0 E0 E0 E0 E0 false 0
 else
 if (cop .eql x0 6)=true then
 (g92 x7 x8 x9).bind fun (r77:Bool)=>
 if r77=true then
 (g94 x40 false).bind fun (r78:Bool)=>
 if r78=true then
 Yw Zx x0 x1 x2 x3 x4 x5 x6 x7 x8 x9 x10 x11 x12 x13 x14 x15 x16 x17 x18 x19 x20 x21 x22 x23 x24 x25 x26 x27 x28 x29 x30 x31 x32 x33 x34 x35 x36 x37 x38 x39 x40 x41 x42 x43 x44 x45 x46 x47 x48 x49 x50 x51 x52 x53 x54 x55 x56 x57 x58 x59 x60 x61 x62 x63 x64 x65 x66 x67 x68 x69 x70 x71 x72 x73 x0 x1 x2 x3 0 x5 0 x7 x8 x9 0 false 0 0 0 0 0 0 0 0 0 0 0 0 0 0 0 0 0 0 0 0 E0 0 0 0 0 0 0 false x40 E0 E0 E0 0 0 E0 E0 E0 E0 E0 E0 E0 E0 0 0 E0 E0 E0 E0 E0 E0 E0 E0 false 0 E0 E0 E0 E0 E0 E0 E0 E0 (cop .leq (List.length x40:Int) 64) 0
 else
 Yw Zx x0 x1 x2 x3 x4 x5 x6 x7 x8 x9 x10 x11 x12 x13 x14 x15 x16 x17 x18 x19 x20 x21 x22 x23 x24 x25 x26 x27 x28 x29 x30 x31 x32 x33 x34 x35 x36 x37 x38 x39 x40 x41 x42 x43 x44 x45 x46 x47 x48 x49 x50 x51 x52 x53 x54 x55 x56 x57 x58 x59 x60 x61 x62 x63 x64 x65 x66 x67 x68 x69 x70 x71 x72 x73 x0 x1 x2 x3 0 x5 0 x7 x8 x9 0 false 0 0 0 0 0 0 0 0 0 0 0 0 0 0 0 0 0 0 0 0 E0 0 0 0 0 0 0 false x40 E0 E0 E0 0 0 E0 E0 E0 E0 E0 E0 E0 E0 0 0 E0 E0 E0 E0 E0 E0 E0 E0 false 0 E0 E0 E0 E0 E0 E0 E0 E0 false 0
 else
 Yw Zx x0 x1 x2 x3 x4 x5 x6 x7 x8 x9 x10 x11 x12 x13 x14 x15 x16 x17 x18 x19 x20 x21 x22 x23 x24 x25 x26 x27 x28 x29 x30 x31 x32 x33 x34 x35 x36 x37 x38 x39 x40 x41 x42 x43 x44 x45 x46 x47 x48 x49 x50 x51 x52 x53 x54 x55 x56 x57 x58 x59 x60 x61 x62 x63 x64 x65 x66 x67 x68 x69 x70 x71 x72 x73 x0 x1 x2 x3 0 x5 0 x7 x8 x9 0 false 0 0 0 0 0 0 0 0 0 0 0 0 0 0 0 0 0 0 0 0 E0 0 0 0 0 0 0 false x40 E0 E0 E0 0 0 E0 E0 E0 E0 E0 E0 E0 E0 0 0 E0 E0 E0 E0 E0 E0 E0 E0 false 0 E0 E0 E0 E0 E0 E0 E0 E0 false 0
 else
 if (cop .eql x0 12)=true then
 (g89 x4).bind fun (r77:Bool)=>
 if r77=true then
 (g95 x42).bind fun (r78:Bool)=>
 Yw Zx x0 x1 x2 x3 x4 x5 x6 x7 x8 x9 x10 x11 x12 x13 x14 x15 x16 x17 x18 x19 x20 x21 x22 x23 x24 x25 x26 x27 x28 x29 x30 x31 x32 x33 x34 x35 x36 x37 x38 x39 x40 x41 x42 x43 x44 x45 x46 x47 x48 x49 x50 x51 x52 x53 x54 x55 x56 x57 x58 x59 x60 x61 x62 x63 x64 x65 x66 x67 x68 x69 x70 x71 x72 x73 x0 x1 x2 x3 x4 0 0 0 0 0 0 false 0 0 0 0 0 0 0 0 0 0 0 0 0 0 0 0 0 0 0 0 E0 0 0 0 0 0 0 false E0 E0 x42 E0 0 0 E0 E0 E0 E0 E0 E0 E0 E0 0 0 E0 E0 E0 E0 E0 E0 E0 E0 false 0 E0 E0 E0 E0 E0 E0 E0 E0 r78 0
 else
 Yw Zx x0 x1 x2 x3 x4 x5 x6 x7 x8 x9 x10 x11 x12 x13 x14 x15 x16 x17 x18 x19 x20 x21 x22 x23 x24 x25 x26 x27 x28 x29 x30 x31 x32 x33 x34 x35 x36 x37 x38 x39 x40 x41 x42 x43 x44 x45 x46 x47 x48 x49 x50 x51 x52 x53 x54 x55 x56 x57 x58 x59 x60 x61 x62 x63 x64 x65 x66 x67 x68 x69 x70 x71 x72 x73 x0 x1 x2 x3 x4 0 0 0 0 0 0 false 0 0 0 0 0 0 0 0 0 0 0 0 0 0 0 0 0 0 0 0 E0 0 0 0 0 0 0 false E0 E0 x42 E0 0 0 E0 E0 E0 E0 E0 E0 E0 E0 0 0 E0 E0 E0 E0 E0 E0 E0 E0 false 0 E0 E0 E0 E0 E0 E0 E0 E0 false 0
 else
 if (cop .eql x0 13)=true then
 (g89 x4).bind fun (r77:Bool)=>
 if r77=true then
 (g96 x54 x55 x56 x57 x58 x59 x60 x61 x62 x63 x64 x65 x66 x67 x68 x69 x70 x71 x72 x73).bind fun (r78:Bool)=>
 Yw Zx x0 x1 x2 x3 x4 x5 x6 x7 x8 x9 x10 x11 x12 x13 x14 x15 x16 x17 x18 x19 x20 x21 x22 x23 x24 x25 x26 x27 x28 x29 x30 x31 x32 x33 x34 x35 x36 x37 x38 x39 x40 x41 x42 x43 x44 x45 x46 x47 x48 x49 x50 x51 x52 x53 x54 x55 x56 x57 x58 x59 x60 x61 x62 x63 x64 x65 x66 x67 x68 x69 x70 x71 x72 x73 x0 x1 x2 x3 x4 0 0 0 0 0 0 false 0 0 0 0 0 0 0 0 0 0 0 0 0 0 0 0 0 0 0 0 E0 0 0 0 0 0 0 false E0 E0 E0 E0 0 0 E0 E0 E0 E0 E0 E0 E0 E0 x54 x55 x56 x57 x58 x59 x60 x61 x62 x63 x64 x65 x66 x67 x68 x69 x70 x71 x72 x73 r78 0
 else
 Yw Zx x0 x1 x2 x3 x4 x5 x6 x7 x8 x9 x10 x11 x12 x13 x14 x15 x16 x17 x18 x19 x20 x21 x22 x23 x24 x25 x26 x27 x28 x29 x30 x31 x32 x33 x34 x35 x36 x37 x38 x39 x40 x41 x42 x43 x44 x45 x46 x47 x48 x49 x50 x51 x52 x53 x54 x55 x56 x57 x58 x59 x60 x61 x62 x63 x64 x65 x66 x67 x68 x69 x70 x71 x72 x73 x0 x1 x2 x3 x4 0 0 0 0 0 0 false 0 0 0 0 0 0 0 0 0 0 0 0 0 0 0 0 0 0 0 0 E0 0 0 0 0 0 0 false E0 E0 E0 E0 0 0 E0 E0 E0 E0 E0 E0 E0 E0 x54 x55 x56 x57 x58 x59 x60 x61 x62 x63 x64 x65 x66 x67 x68 x69 x70 x71 x72 x73 false 0
 else
 if (cop .eql x0 14)=true then
 (g89 x4).bind fun (r77:Bool)=>
 if r77=true then
 (g89 x44).bind fun (r78:Bool)=>
 if r78=true then
 (g95 x42).bind fun (r79:Bool)=>
 if r79=true then
 (g97 x45 x46 x47).bind fun (r80:Bool)=>
 if r80=true then
 (g98 x48 x49 x50 x51 x52 x53).bind fun (r81:Bool)=>
 Yw Zx x0 x1 x2 x3 x4 x5 x6 x7 x8 x9 x10 x11 x12 x13 x14 x15 x16 x17 x18 x19 x20 x21 x22 x23 x24 x25 x26 x27 x28 x29 x30 x31 x32 x33 x34 x35 x36 x37 x38 x39 x40 x41 x42 x43 x44 x45 x46 x47 x48 x49 x50 x51 x52 x53 x54 x55 x56 x57 x58 x59 x60 x61 x62 x63 x64 x65 x66 x67 x68 x69 x70 x71 x72 x73 x0 x1 x2 x3 x4 0 0 0 0 0 0 false 0 0 0 0 0 0 0 0 0 0 0 0 0 0 0 0 0 0 0 0 E0 0 0 0 0 0 0 false E0 E0 x42 E0 x44 x45 x46 x47 x48 x49 x50 x51 x52 x53 0 0 E0 E0 E0 E0 E0 E0 E0 E0 false 0 E0 E0 E0 E0 E0 E0 E0 E0 r81 0
 else
 Yw Zx x0 x1 x2 x3 x4 x5 x6 x7 x8 x9 x10 x11 x12 x13 x14 x15 x16 x17 x18 x19 x20 x21 x22 x23 x24 x25 x26 x27 x28 x29 x30 x31 x32 x33 x34 x35 x36 x37 x38 x39 x40 x41 x42 x43 x44 x45 x46 x47 x48 x49 x50 x51 x52 x53 x54 x55 x56 x57 x58 x59 x60 x61 x62 x63 x64 x65 x66 x67 x68 x69 x70 x71 x72 x73 x0 x1 x2 x3 x4 0 0 0 0 0 0 false 0 0 0 0 0 0 0 0 0 0 0 0 0 0 0 0 0 0 0 0 E0 0 0 0 0 0 0 false E0 E0 x42 E0 x44 x45 x46 x47 x48 x49 x50 x51 x52 x53 0 0 E0 E0 E0 E0 E0 E0 E0 E0 false 0 E0 E0 E0 E0 E0 E0 E0 E0 false 0
 else
 Yw Zx x0 x1 x2 x3 x4 x5 x6 x7 x8 x9 x10 x11 x12 x13 x14 x15 x16 x17 x18 x19 x20 x21 x22 x23 x24 x25 x26 x27 x28 x29 x30 x31 x32 x33 x34 x35 x36 x37 x38 x39 x40 x41 x42 x43 x44 x45 x46 x47 x48 x49 x50 x51 x52 x53 x54 x55 x56 x57 x58 x59 x60 x61 x62 x63 x64 x65 x66 x67 x68 x69 x70 x71 x72 x73 x0 x1 x2 x3 x4 0 0 0 0 0 0 false 0 0 0 0 0 0 0 0 0 0 0 0 0 0 0 0 0 0 0 0 E0 0 0 0 0 0 0 false E0 E0 x42 E0 x44 x45 x46 x47 x48 x49 x50 x51 x52 x53 0 0 E0 E0 E0 E0 E0 E0 E0 E0 false 0 E0 E0 E0 E0 E0 E0 E0 E0 false 0
 else
 Yw Zx x0 x1 x2 x3 x4 x5 x6 x7 x8 x9 x10 x11 x12 x13 x14 x15 x16 x17 x18 x19 x20 x21 x22 x23 x24 x25 x26 x27 x28 x29 x30 x31 x32 x33 x34 x35 x36 x37 x38 x39 x40 x41 x42 x43 x44 x45 x46 x47 x48 x49 x50 x51 x52 x53 x54 x55 x56 x57 x58 x59 x60 x61 x62 x63 x64 x65 x66 x67 x68 x69 x70 x71 x72 x73 x0 x1 x2 x3 x4 0 0 0 0 0 0 false 0 0 0 0 0 0 0 0 0 0 0 0 0 0 0 0 0 0 0 0 E0 0 0 0 0 0 0 false E0 E0 x42 E0 x44 x45 x46 x47 x48 x49 x50 x51 x52 x53 0 0 E0 E0 E0 E0 E0 E0 E0 E0 false 0 E0 E0 E0 E0 E0 E0 E0 E0 false 0
 else
 Yw Zx x0 x1 x2 x3 x4 x5 x6 x7 x8 x9 x10 x11 x12 x13 x14 x15 x16 x17 x18 x19 x20 x21 x22 x23 x24 x25 x26 x27 x28 x29 x30 x31 x32 x33 x34 x35 x36 x37 x38 x39 x40 x41 x42 x43 x44 x45 x46 x47 x48 x49 x50 x51 x52 x53 x54 x55 x56 x57 x58 x59 x60 x61 x62 x63 x64 x65 x66 x67 x68 x69 x70 x71 x72 x73 x0 x1 x2 x3 x4 0 0 0 0 0 0 false 0 0 0 0 0 0 0 0 0 0 0 0 0 0 0 0 0 0 0 0 E0 0 0 0 0 0 0 false E0 E0 x42 E0 x44 x45 x46 x47 x48 x49 x50 x51 x52 x53 0 0 E0 E0 E0 E0 E0 E0 E0 E0 false 0 E0 E0 E0 E0 E0 E0 E0 E0 false 0
 else
 if (cop .eql x0 15)=true then
 (g89 x4).bind fun (r77:Bool)=>
 Yw Zx x0 x1 x2 x3 x4 x5 x6 x7 x8 x9 x10 x11 x12 x13 x14 x15 x16 x17 x18 x19 x20 x21 x22 x23 x24 x25 x26 x27 x28 x29 x30 x31 x32 x33 x34 x35 x36 x37 x38 x39 x40 x41 x42 x43 x44 x45 x46 x47 x48 x49 x50 x51 x52 x53 x54 x55 x56 x57 x58 x59 x60 x61 x62 x63 x64 x65 x66 x67 x68 x69 x70 x71 x72 x73 x0 x1 x2 x3 x4 0 0 0 0 0 0 false 0 0 0 0 0 0 0 0 0 0 0 0 0 0 0 0 0 0 0 0 E0 0 0 0 0 0 0 false E0 E0 E0 E0 0 0 E0 E0 E0 E0 E0 E0 E0 E0 0 0 E0 E0 E0 E0 E0 E0 E0 E0 false 0 E0 E0 E0 E0 E0 E0 E0 E0 r77 0
 else
 if (cop .eql x0 16)=true then
 (g89 x4).bind fun (r77:Bool)=>
 Yw Zx x0 x1 x2 x3 x4 x5 x6 x7 x8 x9 x10 x11 x12 x13 x14 x15 x16 x17 x18 x19 x20 x21 x22 x23 x24 x25 x26 x27 x28 x29 x30 x31 x32 x33 x34 x35 x36 x37 x38 x39 x40 x41 x42 x43 x44 x45 x46 x47 x48 x49 x50 x51 x52 x53 x54 x55 x56 x57 x58 x59 x60 x61 x62 x63 x64 x65 x66 x67 x68 x69 x70 x71 x72 x73 x0 x1 x2 x3 x4 0 0 0 0 0 0 false 0 0 0 0 0 0 0 0 0 0 0 0 0 0 0 0 0 0 0 0 E0 0 0 0 0 0 0 false E0 E0 E0 E0 0 0 E0 E0 E0 E0 E0 E0 E0 E0 0 0 E0 E0 E0 E0 E0 E0 E0 E0 false 0 E0 E0 E0 E0 E0 E0 E0 E0 r77 0
 else
 if (cop .eql x0 17)=true then
 (g95 x42).bind fun (r77:Bool)=>
 if r77=true then
 (g99 x43).bind fun (r78:Bool)=>
 Yw Zx x0 x1 x2 x3 x4 x5 x6 x7 x8 x9 x10 x11 x12 x13 x14 x15 x16 x17 x18 x19 x20 x21 x22 x23 x24 x25 x26 x27 x28 x29 x30 x31 x32 x33 x34 x35 x36 x37 x38 x39 x40 x41 x42 x43 x44 x45 x46 x47 x48 x49 x50 x51 x52 x53 x54 x55 x56 x57 x58 x59 x60 x61 x62 x63 x64 x65 x66 x67 x68 x69 x70 x71 x72 x73 x0 x1 x2 x3 0 0 0 0 0 0 0 false 0 0 0 0 0 0 0 0 0 0 0 0 0 0 0 0 0 0 0 0 E0 0 0 0 0 0 0 false E0 E0 x42 x43 0 0 E0 E0 E0 E0 E0 E0 E0 E0 0 0 E0 E0 E0 E0 E0 E0 E0 E0 false 0 E0 E0 E0 E0 E0 E0 E0 E0 r78 0
 else
 Yw Zx x0 x1 x2 x3 x4 x5 x6 x7 x8 x9 x10 x11 x12 x13 x14 x15 x16 x17 x18 x19 x20 x21 x22 x23 x24 x25 x26 x27 x28 x29 x30 x31 x32 x33 x34 x35 x36 x37 x38 x39 x40 x41 x42 x43 x44 x45 x46 x47 x48 x49 x50 x51 x52 x53 x54 x55 x56 x57 x58 x59 x60 x61 x62 x63 x64 x65 x66 x67 x68 x69 x70 x71 x72 x73 x0 x1 x2 x3 0 0 0 0 0 0 0 false 0 0 0 0 0 0 0 0 0 0 0 0 0 0 0 0 0 0 0 0 E0 0 0 0 0 0 0 false E0 E0 x42 x43 0 0 E0 E0 E0 E0 E0 E0 E0 E0 0 0 E0 E0 E0 E0 E0 E0 E0 E0 false 0 E0 E0 E0 E0 E0 E0 E0 E0 false 0
 else
 (g92 x7 x8 x9).bind fun (r77:Bool)=>
 Yw Zx x0 x1 x2 x3 x4 x5 x6 x7 x8 x9 x10 x11 x12 x13 x14 x15 x16 x17 x18 x19 x20 x21 x22 x23 x24 x25 x26 x27 x28 x29 x30 x31 x32 x33 x34 x35 x36 x37 x38 x39 x40 x41 x42 x43 x44 x45 x46 x47 x48 x49 x50 x51 x52 x53 x54 x55 x56 x57 x58 x59 x60 x61 x62 x63 x64 x65 x66 x67 x68 x69 x70 x71 x72 x73 x0 x1 x2 x3 0 x5 0 x7 x8 x9 0 false 0 0 0 0 0 0 0 0 0 0 0 0 0 0 0 0 0 0 0 0 E0 0 0 0 0 0 0 false E0 E0 E0 E0 0 0 E0 E0 E0 E0 E0 E0 E0 E0 0 0 E0 E0 E0 E0 E0 E0 E0 E0 false 0 E0 E0 E0 E0 E0 E0 E0 E0 r77 0):=by kernel_rfl
noncomputable def F20:Fn:=⟨12,[2],[],[],0,[],[],Tryz.f20,[.agg hs6],[.c (.bool)],[]⟩
theorem Zzw:F20.S.Ok Tryz.prog 20:=F20.ok Tryz.func20 (by kernel_rfl) trivial
noncomputable def g20 (x0 x1 x2:Int) (x3:LL) (x4 x5 x6 x7 x8 x9:Int) (x10:Bool) (x11 x12 x13 x14:Int):Option (Bool):=F20.S.g [.i x0,.i x1,.i x2,.l x3,.i x4,.i x5,.i x6,.i x7,.i x8,.i x9,.b x10,.i x11,.i x12,.i x13,.i x14]
theorem Zsz (x0 x1 x2:Int) (x3:LL) (x4 x5 x6 x7 x8 x9:Int) (x10:Bool) (x11 x12 x13 x14:Int):g20 x0 x1 x2 x3 x4 x5 x6 x7 x8 x9 x10 x11 x12 x13 x14 =
 (if (cop .neq x11 0)=true then
 some (true)
 else
 some ((!((cop .eql x12 0)&&((cop .eql x13 0)&&((cop .eql x14 0)&&true)))))):=by kernel_rfl
noncomputable def F53:Fn:=⟨5,[2],[],[],0,[],[],Tryz.f53,[.c (.slice 3)],[.c (.own false 37)],[]⟩
theorem ZyS:F53.S.Ok Tryz.prog 53:=F53.ok Tryz.func53 (by kernel_rfl) trivial
noncomputable def g53 (x0:LL):Option (LL):=F53.S.g [.l x0]
theorem Zur (x0:LL):g53 x0 =
 (Zw (Ja E0 x0 24)<|
 some (x0)):=by kernel_rfl
noncomputable def F30:Fn:=⟨8,[2],[],[],0,[],[],Tryz.f30,[.agg hs8],[.agg hs8],[(53,F53.S)]⟩
theorem ZsN:F30.S.Ok Tryz.prog 30:=F30.ok Tryz.func30 (by kernel_rfl) ⟨ZyS,trivial⟩
noncomputable def g30 (x0 x1 x2:Int) (x3:LL) (x4 x5 x6 x7 x8 x9:Int) (x10:Bool):Option (Qt17):=F30.S.g [.i x0,.i x1,.i x2,.l x3,.i x4,.i x5,.i x6,.i x7,.i x8,.i x9,.b x10]
theorem ZsS (x0 x1 x2:Int) (x3:LL) (x4 x5 x6 x7 x8 x9:Int) (x10:Bool):g30 x0 x1 x2 x3 x4 x5 x6 x7 x8 x9 x10 =
 ((g53 x3).bind fun (r11:LL)=>
 some (x0,x1,x2,r11,x4,x5,x6,x7,x8,x9,x10)):=by kernel_rfl
noncomputable def F16:Fn:=⟨32,[2],[(3,[(0,.c (.slice 15)),(3,.c (.own true 60)),(4,.c (.int .i64))])],[],0,[2,3,30],[],Tryz.f16,[.c (.slice 15)],[.c (.own true 60)],[(30,F30.S)]⟩
theorem Zy9:F16.S.Ok Tryz.prog 16:=F16.ok Tryz.func16 (by kernel_rfl) ⟨ZsN,trivial⟩
noncomputable def g16 (x0:LL):Option (LL):=F16.S.g [.l x0]
noncomputable def ZkE (k:Nat) (x0 x1:LL) (x2:Int):Option (LL):=F16.lp [0] 0 r0 k [.l x0,.l x1,.i x2]
theorem Zj5 (k:Nat) (x0 x1:LL) (x2:Int):ZkE (k+1) x0 x1 x2 =
 (if (cop .lss x2 (List.length x0:Int))=true then
 Zi x0 x2 hs6 fun (r3:Qt11)=>
 (g30 r3.1 r3.2.1 r3.2.2.1 r3.2.2.2.1 r3.2.2.2.2.1 r3.2.2.2.2.2.1 r3.2.2.2.2.2.2.1 r3.2.2.2.2.2.2.2.1 r3.2.2.2.2.2.2.2.2.1 r3.2.2.2.2.2.2.2.2.2.1 r3.2.2.2.2.2.2.2.2.2.2.1).bind fun (r18:Qt17)=>
 Zi x0 x2 hs6 fun (r29:Qt11)=>
 Zi x0 x2 hs6 fun (r44:Qt11)=>
 Zw (Ja x1 (E0++[[AV.val (.int .i64 r18.1),AV.val (.int .i64 r18.2.1),AV.val (.int .i64 r18.2.2.1),AV.slice false 3 r18.2.2.2.1,AV.val (.int .i64 r18.2.2.2.2.1),AV.val (.int .i64 r18.2.2.2.2.2.1),AV.val (.int .i64 r18.2.2.2.2.2.2.1),AV.val (.int .i64 r18.2.2.2.2.2.2.2.1),AV.val (.int .i64 r18.2.2.2.2.2.2.2.2.1),AV.val (.int .i64 r18.2.2.2.2.2.2.2.2.2.1),AV.val (.bool r18.2.2.2.2.2.2.2.2.2.2),AV.val (.int .i64 r29.2.2.2.2.2.2.2.2.2.2.2.1),AV.val (.int .i64 (d4 (d8 r44)).1),AV.val (.int .i64 (d4 (d8 r44)).2.1),AV.val (.int .i64 (d2 (d4 (d8 r44))))]]) 136)<|
 ZkE k x0 (x1++(E0++[[AV.val (.int .i64 r18.1),AV.val (.int .i64 r18.2.1),AV.val (.int .i64 r18.2.2.1),AV.slice false 3 r18.2.2.2.1,AV.val (.int .i64 r18.2.2.2.2.1),AV.val (.int .i64 r18.2.2.2.2.2.1),AV.val (.int .i64 r18.2.2.2.2.2.2.1),AV.val (.int .i64 r18.2.2.2.2.2.2.2.1),AV.val (.int .i64 r18.2.2.2.2.2.2.2.2.1),AV.val (.int .i64 r18.2.2.2.2.2.2.2.2.2.1),AV.val (.bool r18.2.2.2.2.2.2.2.2.2.2),AV.val (.int .i64 r29.2.2.2.2.2.2.2.2.2.2.2.1),AV.val (.int .i64 (d4 (d8 r44)).1),AV.val (.int .i64 (d4 (d8 r44)).2.1),AV.val (.int .i64 (d2 (d4 (d8 r44))))]])) (iop .add .i64 x2 1)
 else
 some (x1)):=by kernel_rfl
theorem Ztw (x0:LL):g16 x0 =
 (ZkE Zx x0 E0 0):=by kernel_rfl
noncomputable def ZyH:Fn:=⟨44,[6,7],[],[],0,[],[(7,[(8,0)])],Tryz.f101,[.c (.slice 15),.c (.int .i64),.agg hs8],[.c (.slice 15),.c (.int .i64)],[(87,F87.S),(23,F23.S),(21,F21.S),(16,F16.S),(30,F30.S)]⟩
noncomputable def Zyl (x0:LL) (x1 x2 x3 x4:Int) (x5:LL) (x6 x7 x8 x9 x10 x11:Int) (x12:Bool):Option (LL×Int):=ZyH.S.g [.l x0,.i x1,.i x2,.i x3,.i x4,.l x5,.i x6,.i x7,.i x8,.i x9,.i x10,.i x11,.b x12]
theorem Zrg (x0:LL) (x1 x2 x3 x4:Int) (x5:LL) (x6 x7 x8 x9 x10 x11:Int) (x12:Bool):Zyl x0 x1 x2 x3 x4 x5 x6 x7 x8 x9 x10 x11 x12 =
 (if (cop .lss x1 0)=true then
 some (E0,1)
 else
 if (cop .geq x1 (List.length x0:Int))=true then
 some (E0,1)
 else
 (g87 x2 x3 x4 x5 x6 x7 x8 x9 x10 x11 x12).bind fun (r13:Bool)=>
 if (!r13)=true then
 some (E0,1)
 else
 (g23 x0 x2 x3 x4).bind fun (r14:Int)=>
 if (cop .geq r14 0)=true then
 some (E0,1)
 else
 Zi x0 x1 hs6 fun (r15:Qt11)=>
 (g21 r15.1 r15.2.1 r15.2.2.1 r15.2.2.2.1 r15.2.2.2.2.1 r15.2.2.2.2.2.1 r15.2.2.2.2.2.2.1 r15.2.2.2.2.2.2.2.1 r15.2.2.2.2.2.2.2.2.1 r15.2.2.2.2.2.2.2.2.2.1 r15.2.2.2.2.2.2.2.2.2.2.1 r15.2.2.2.2.2.2.2.2.2.2.2.1 (d4 (d8 r15)).1 (d4 (d8 r15)).2.1 (d2 (d4 (d8 r15)))).bind fun (r30:Bool)=>
 if (!r30)=true then
 some (E0,3)
 else
 (g16 x0).bind fun (r31:LL)=>
 (g30 x2 x3 x4 x5 x6 x7 x8 x9 x10 x11 x12).bind fun (r32:Qt17)=>
 Zw ((0:Int)≤x1)<|
 Zw ((x1:Int) < (List.length r31:Int))<|
 Zw ((0:Int)≤x1)<|
 Zw ((x1:Int) < (List.length r31:Int))<|
 some ((Zy r31 (Int.toNat x1) 0 [AV.val (.int .i64 r32.1),AV.val (.int .i64 r32.2.1),AV.val (.int .i64 r32.2.2.1),AV.slice false 3 r32.2.2.2.1,AV.val (.int .i64 r32.2.2.2.2.1),AV.val (.int .i64 r32.2.2.2.2.2.1),AV.val (.int .i64 r32.2.2.2.2.2.2.1),AV.val (.int .i64 r32.2.2.2.2.2.2.2.1),AV.val (.int .i64 r32.2.2.2.2.2.2.2.2.1),AV.val (.int .i64 r32.2.2.2.2.2.2.2.2.2.1),AV.val (.bool r32.2.2.2.2.2.2.2.2.2.2)]),0)):=by kernel_rfl
noncomputable def F57:Fn:=⟨37,[4,5],[],[],0,[],[],Tryz.f57,[.c (.slice 15),.agg hs0],[.c (.slice 15),.c (.int .i64)],[(20,F20.S),(21,F21.S),(101,ZyH.S)]⟩
noncomputable def g57 (x0:LL) (x1 x2 x3 x4 x5 x6 x7 x8 x9 x10 x11:Int) (x12:Bool) (x13 x14 x15 x16 x17 x18 x19 x20 x21 x22 x23 x24 x25 x26 x27 x28 x29 x30 x31 x32:Int) (x33:LL) (x34 x35 x36 x37 x38 x39:Int) (x40:Bool) (x41 x42 x43 x44:LL) (x45 x46:Int) (x47 x48 x49 x50 x51 x52 x53 x54:LL) (x55 x56:Int) (x57 x58 x59 x60 x61 x62 x63 x64:LL) (x65:Bool) (x66:Int) (x67 x68 x69 x70 x71 x72 x73 x74:LL):Option (LL×Int):=F57.S.g [.l x0,.i x1,.i x2,.i x3,.i x4,.i x5,.i x6,.i x7,.i x8,.i x9,.i x10,.i x11,.b x12,.i x13,.i x14,.i x15,.i x16,.i x17,.i x18,.i x19,.i x20,.i x21,.i x22,.i x23,.i x24,.i x25,.i x26,.i x27,.i x28,.i x29,.i x30,.i x31,.i x32,.l x33,.i x34,.i x35,.i x36,.i x37,.i x38,.i x39,.b x40,.l x41,.l x42,.l x43,.l x44,.i x45,.i x46,.l x47,.l x48,.l x49,.l x50,.l x51,.l x52,.l x53,.l x54,.i x55,.i x56,.l x57,.l x58,.l x59,.l x60,.l x61,.l x62,.l x63,.l x64,.b x65,.i x66,.l x67,.l x68,.l x69,.l x70,.l x71,.l x72,.l x73,.l x74]
theorem ZuB (x0:LL) (x1 x2 x3 x4 x5 x6 x7 x8 x9 x10 x11:Int) (x12:Bool) (x13 x14 x15 x16 x17 x18 x19 x20 x21 x22 x23 x24 x25 x26 x27 x28 x29 x30 x31 x32:Int) (x33:LL) (x34 x35 x36 x37 x38 x39:Int) (x40:Bool) (x41 x42 x43 x44:LL) (x45 x46:Int) (x47 x48 x49 x50 x51 x52 x53 x54:LL) (x55 x56:Int) (x57 x58 x59 x60 x61 x62 x63 x64:LL) (x65:Bool) (x66:Int) (x67 x68 x69 x70 x71 x72 x73 x74:LL):g57 x0 x1 x2 x3 x4 x5 x6 x7 x8 x9 x10 x11 x12 x13 x14 x15 x16 x17 x18 x19 x20 x21 x22 x23 x24 x25 x26 x27 x28 x29 x30 x31 x32 x33 x34 x35 x36 x37 x38 x39 x40 x41 x42 x43 x44 x45 x46 x47 x48 x49 x50 x51 x52 x53 x54 x55 x56 x57 x58 x59 x60 x61 x62 x63 x64 x65 x66 x67 x68 x69 x70 x71 x72 x73 x74 =
 (if (cop .geq x7 (List.length x0:Int))=true then
 some (E0,1)
 else
 Zi x0 x7 hs6 fun (r75:Qt11)=>
 (g20 r75.1 r75.2.1 r75.2.2.1 r75.2.2.2.1 r75.2.2.2.2.1 r75.2.2.2.2.2.1 r75.2.2.2.2.2.2.1 r75.2.2.2.2.2.2.2.1 r75.2.2.2.2.2.2.2.2.1 r75.2.2.2.2.2.2.2.2.2.1 r75.2.2.2.2.2.2.2.2.2.2.1 r75.2.2.2.2.2.2.2.2.2.2.2.1 (d4 (d8 r75)).1 (d4 (d8 r75)).2.1 (d2 (d4 (d8 r75)))).bind fun (r90:Bool)=>
 if r90=true then
 some (E0,4)
 else
 Zi x0 x7 hs6 fun (r91:Qt11)=>
 (g21 r91.1 r91.2.1 r91.2.2.1 r91.2.2.2.1 r91.2.2.2.2.1 r91.2.2.2.2.2.1 r91.2.2.2.2.2.2.1 r91.2.2.2.2.2.2.2.1 r91.2.2.2.2.2.2.2.2.1 r91.2.2.2.2.2.2.2.2.2.1 r91.2.2.2.2.2.2.2.2.2.2.1 r91.2.2.2.2.2.2.2.2.2.2.2.1 (d4 (d8 r91)).1 (d4 (d8 r91)).2.1 (d2 (d4 (d8 r91)))).bind fun (r106:Bool)=>
 if (!r106)=true then
 some (E0,3)
 else
 Zi x42 0 hs8 fun (r107:Qt17)=>
 (Zyl x0 x7 r107.1 r107.2.1 r107.2.2.1 r107.2.2.2.1 r107.2.2.2.2.1 r107.2.2.2.2.2.1 r107.2.2.2.2.2.2.1 r107.2.2.2.2.2.2.2.1 r107.2.2.2.2.2.2.2.2.1 r107.2.2.2.2.2.2.2.2.2.1 r107.2.2.2.2.2.2.2.2.2.2).bind fun (r118:LL×Int)=>
 some (r118.1,r118.2)):=by kernel_rfl
noncomputable def F58:Fn:=⟨39,[6],[(3,[(1,.c (.slice 3)),(5,.box [.int .i64,.int .i64,.int .i64]),(7,.c (.own true 60)),(8,.c (.int .i64))])],[],0,[],[(7,[(7,0)])],Tryz.f58,[.c (.slice 15),.c (.slice 3),.agg [.int .i64,.int .i64,.int .i64]],[.c (.own false 60)],[(16,F16.S),(21,F21.S),(18,F18.S)]⟩
noncomputable def g58 (x0 x1:LL) (x2 x3 x4:Int):Option (LL):=F58.S.g [.l x0,.l x1,.i x2,.i x3,.i x4]
noncomputable def ZgC (k:Nat) (x0:LL) (x1 x2 x3:Int) (x4:LL) (x5:Int):Option (LL):=F58.lp [2] 0 r0 k [.l x0,.i x1,.i x2,.i x3,.l x4,.i x5]
theorem Zja (k:Nat) (x0:LL) (x1 x2 x3:Int) (x4:LL) (x5:Int):ZgC (k+1) x0 x1 x2 x3 x4 x5 =
 (if (cop .lss x5 (List.length x4:Int))=true then
 Zw ((0:Int)≤x5)<|
 Zw ((x5:Int) < (List.length x4:Int))<|
 Zi x4 x5 hs6 fun (r6:Qt11)=>
 (g21 r6.1 r6.2.1 r6.2.2.1 r6.2.2.2.1 r6.2.2.2.2.1 r6.2.2.2.2.2.1 r6.2.2.2.2.2.2.1 r6.2.2.2.2.2.2.2.1 r6.2.2.2.2.2.2.2.2.1 r6.2.2.2.2.2.2.2.2.2.1 r6.2.2.2.2.2.2.2.2.2.2.1 r6.2.2.2.2.2.2.2.2.2.2.2.1 (d4 (d8 r6)).1 (d4 (d8 r6)).2.1 (d2 (d4 (d8 r6)))).bind fun (r21:Bool)=>
 if (!r21)=true then
 Zw ((0:Int)≤x5)<|
 Zw ((x5:Int) < (List.length x4:Int))<|
 Zi x4 x5 hs6 fun (r22:Qt11)=>
 (g18 x0 r22.1 r22.2.1 r22.2.2.1).bind fun (r37:Bool)=>
 if r37=true then
 Zw ((0:Int)≤x5)<|
 Zw ((x5:Int) < (List.length x4:Int))<|
 Zw ((0:Int)≤x5)<|
 Zw ((x5:Int) < (List.length x4:Int))<|
 ZgC k x0 x1 x2 x3 (Zy x4 (Int.toNat x5) 12 [AV.val (.int .i64 x1),AV.val (.int .i64 x2),AV.val (.int .i64 x3)]) (iop .add .i64 x5 1)
 else
 ZgC k x0 x1 x2 x3 x4 (iop .add .i64 x5 1)
 else
 ZgC k x0 x1 x2 x3 x4 (iop .add .i64 x5 1)
 else
 some (x4)):=by kernel_rfl
theorem ZsR (x0 x1:LL) (x2 x3 x4:Int):g58 x0 x1 x2 x3 x4 =
 ((g16 x0).bind fun (r5:LL)=>
 ZgC Zx x1 x2 x3 x4 r5 0):=by kernel_rfl
noncomputable def F59:Fn:=⟨28,[4],[(3,[(0,.c (.slice 4)),(1,.c (.int .i64)),(5,.c (.own false 62)),(6,.c (.int .i64))])],[],0,[],[],Tryz.f59,[.c (.slice 4),.c (.int .i64)],[.c (.own false 62)],[]⟩
noncomputable def g59 (x0:LL) (x1:Int):Option (LL):=F59.S.g [.l x0,.i x1]
noncomputable def Zil (k:Nat) (x0:LL) (x1:Int) (x2:LL) (x3:Int):Option (LL):=F59.lp [0] 0 r0 k [.l x0,.i x1,.l x2,.i x3]
theorem Zj8 (k:Nat) (x0:LL) (x1:Int) (x2:LL) (x3:Int):Zil (k+1) x0 x1 x2 x3 =
 (if (cop .lss x3 (List.length x0:Int))=true then
 Zi x0 x3 [.int .i64,.int .i64,.int .i64,.int .i64] fun (r4:Int×Int×Int×Int)=>
 if (cop .neq r4.1 x1)=true then
 Zi x0 x3 [.int .i64,.int .i64,.int .i64,.int .i64] fun (r8:Int×Int×Int×Int)=>
 Zw (Ja x2 (E0++[[AV.val (.int .i64 r8.1),AV.val (.int .i64 r8.2.1),AV.val (.int .i64 r8.2.2.1),AV.val (.int .i64 r8.2.2.2)]]) 32)<|
 Zil k x0 x1 (x2++(E0++[[AV.val (.int .i64 r8.1),AV.val (.int .i64 r8.2.1),AV.val (.int .i64 r8.2.2.1),AV.val (.int .i64 r8.2.2.2)]])) (iop .add .i64 x3 1)
 else
 Zil k x0 x1 x2 (iop .add .i64 x3 1)
 else
 some (x2)):=by kernel_rfl
theorem ZsB (x0:LL) (x1:Int):g59 x0 x1 =
 (Zil Zx x0 x1 E0 0):=by kernel_rfl
noncomputable def F60:Fn:=⟨37,[4],[(3,[(0,.c (.slice 4)),(3,.box [.int .i64,.int .i64,.int .i64,.int .i64]),(5,.c (.int .i64))])],[],0,[],[],Tryz.f60,[.c (.slice 4),.agg [.int .i64,.int .i64,.int .i64,.int .i64]],[.c (.own false 62)],[(59,F59.S)]⟩
noncomputable def g60 (x0:LL) (x1 x2 x3 x4:Int):Option (LL):=F60.S.g [.l x0,.i x1,.i x2,.i x3,.i x4]
noncomputable def Zld (k:Nat) (x0:LL) (x1 x2 x3 x4 x5:Int):Option (LL):=F60.lp [2] 0 r0 k [.l x0,.i x1,.i x2,.i x3,.i x4,.i x5]
theorem Zi3 (k:Nat) (x0:LL) (x1 x2 x3 x4 x5:Int):Zld (k+1) x0 x1 x2 x3 x4 x5 =
 (if (cop .lss x5 (List.length x0:Int))=true then
 Zi x0 x5 [.int .i64,.int .i64,.int .i64,.int .i64] fun (r6:Int×Int×Int×Int)=>
 if (cop .lss r6.1 x1)=true then
 Zld k x0 x1 x2 x3 x4 (iop .add .i64 x5 1)
 else
 Zw ((0:Int)≤x5)<|
 Zw ((x5:Int)≤(List.length x0:Int))<|
 Zw (Ja E0 (List.take (Int.toNat x5) x0) 32)<|
 Zw (Ja (List.take (Int.toNat x5) x0) (E0++[[AV.val (.int .i64 x1),AV.val (.int .i64 x2),AV.val (.int .i64 x3),AV.val (.int .i64 x4)]]) 32)<|
 Zw ((0:Int)≤x5)<|
 Zw ((x5:Int)≤(List.length x0:Int))<|
 Zw (Ja ((List.take (Int.toNat x5) x0)++(E0++[[AV.val (.int .i64 x1),AV.val (.int .i64 x2),AV.val (.int .i64 x3),AV.val (.int .i64 x4)]])) (List.drop (Int.toNat x5) x0) 32)<|
 some ((((List.take (Int.toNat x5) x0)++(E0++[[AV.val (.int .i64 x1),AV.val (.int .i64 x2),AV.val (.int .i64 x3),AV.val (.int .i64 x4)]]))++(List.drop (Int.toNat x5) x0)))
 else
 Zw ((0:Int)≤x5)<|
 Zw ((x5:Int)≤(List.length x0:Int))<|
 Zw (Ja E0 (List.take (Int.toNat x5) x0) 32)<|
 Zw (Ja (List.take (Int.toNat x5) x0) (E0++[[AV.val (.int .i64 x1),AV.val (.int .i64 x2),AV.val (.int .i64 x3),AV.val (.int .i64 x4)]]) 32)<|
 Zw ((0:Int)≤x5)<|
 Zw ((x5:Int)≤(List.length x0:Int))<|
 Zw (Ja ((List.take (Int.toNat x5) x0)++(E0++[[AV.val (.int .i64 x1),AV.val (.int .i64 x2),AV.val (.int .i64 x3),AV.val (.int .i64 x4)]])) (List.drop (Int.toNat x5) x0) 32)<|
 some ((((List.take (Int.toNat x5) x0)++(E0++[[AV.val (.int .i64 x1),AV.val (.int .i64 x2),AV.val (.int .i64 x3),AV.val (.int .i64 x4)]]))++(List.drop (Int.toNat x5) x0)))):=by kernel_rfl
theorem ZuM (x0:LL) (x1 x2 x3 x4:Int):g60 x0 x1 x2 x3 x4 =
 ((g59 x0 x1).bind fun (r5:LL)=>
 Zld Zx r5 x1 x2 x3 x4 0):=by kernel_rfl
noncomputable def F61:Fn:=⟨58,[4,5],[(4,[(3,.box [.int .i64,.int .i64,.int .i64]),(6,.c (.own true 60)),(7,.c (.own false 37)),(8,.c (.int .i64))])],[],0,[],[(10,[(6,0)])],Tryz.f61,[.c (.slice 15),.agg [.int .i64,.int .i64,.int .i64]],[.c (.own false 60),.c (.own false 37)],[(16,F16.S),(21,F21.S)]⟩
noncomputable def g61 (x0:LL) (x1 x2 x3:Int):Option (LL×LL):=F61.S.g [.l x0,.i x1,.i x2,.i x3]
noncomputable def ZbL (k:Nat) (x0 x1 x2:Int) (x3 x4:LL) (x5:Int):Option (LL×LL):=F61.lp [2] 0 r0 k [.i x0,.i x1,.i x2,.l x3,.l x4,.i x5]
theorem Zcj (k:Nat) (x0 x1 x2:Int) (x3 x4:LL) (x5:Int):ZbL (k+1) x0 x1 x2 x3 x4 x5 =
 (if (cop .lss x5 (List.length x3:Int))=true then
 Zw ((0:Int)≤x5)<|
 Zw ((x5:Int) < (List.length x3:Int))<|
 Zi x3 x5 hs6 fun (r6:Qt11)=>
 (g21 r6.1 r6.2.1 r6.2.2.1 r6.2.2.2.1 r6.2.2.2.2.1 r6.2.2.2.2.2.1 r6.2.2.2.2.2.2.1 r6.2.2.2.2.2.2.2.1 r6.2.2.2.2.2.2.2.2.1 r6.2.2.2.2.2.2.2.2.2.1 r6.2.2.2.2.2.2.2.2.2.2.1 r6.2.2.2.2.2.2.2.2.2.2.2.1 (d4 (d8 r6)).1 (d4 (d8 r6)).2.1 (d2 (d4 (d8 r6)))).bind fun (r21:Bool)=>
 if (!r21)=true then
 Zw ((0:Int)≤x5)<|
 Zw ((x5:Int) < (List.length x3:Int))<|
 Zi x3 x5 hs6 fun (r22:Qt11)=>
 if ((cop .eql (d4 (d8 r22)).1 x0)&&((cop .eql (d4 (d8 r22)).2.1 x1)&&((cop .eql (d2 (d4 (d8 r22))) x2)&&true)))=true then
 if (!((cop .eql x0 0)&&((cop .eql x1 0)&&((cop .eql x2 0)&&true))))=true then
 Zw ((0:Int)≤x5)<|
 Zw ((x5:Int) < (List.length x3:Int))<|
 Zi x3 x5 hs6 fun (r37:Qt11)=>
 Zw (Ja x4 (E0++[[AV.val (.int .i64 r37.1),AV.val (.int .i64 r37.2.1),AV.val (.int .i64 r37.2.2.1)]]) 24)<|
 Zw ((0:Int)≤x5)<|
 Zw ((x5:Int) < (List.length x3:Int))<|
 Zw ((0:Int)≤x5)<|
 Zw ((x5:Int) < (List.length x3:Int))<|
 Zw ((0:Int)≤x5)<|
 Zw ((x5:Int) < (List.length (Zy x3 (Int.toNat x5) 0 [AV.val (.int .i64 0),AV.val (.int .i64 0),AV.val (.int .i64 0),AV.slice false 3 E0,AV.val (.int .i64 0),AV.val (.int .i64 0),AV.val (.int .i64 0),AV.val (.int .i64 0),AV.val (.int .i64 0),AV.val (.int .i64 0),AV.val (.bool false)]):Int))<|
 Zw ((0:Int)≤x5)<|
 Zw ((x5:Int) < (List.length (Zy x3 (Int.toNat x5) 0 [AV.val (.int .i64 0),AV.val (.int .i64 0),AV.val (.int .i64 0),AV.slice false 3 E0,AV.val (.int .i64 0),AV.val (.int .i64 0),AV.val (.int .i64 0),AV.val (.int .i64 0),AV.val (.int .i64 0),AV.val (.int .i64 0),AV.val (.bool false)]):Int))<|
 ZbL k x0 x1 x2 (Zy (Zy x3 (Int.toNat x5) 0 [AV.val (.int .i64 0),AV.val (.int .i64 0),AV.val (.int .i64 0),AV.slice false 3 E0,AV.val (.int .i64 0),AV.val (.int .i64 0),AV.val (.int .i64 0),AV.val (.int .i64 0),AV.val (.int .i64 0),AV.val (.int .i64 0),AV.val (.bool false)]) (Int.toNat x5) 12 [AV.val (.int .i64 0),AV.val (.int .i64 0),AV.val (.int .i64 0)]) (x4++(E0++[[AV.val (.int .i64 r37.1),AV.val (.int .i64 r37.2.1),AV.val (.int .i64 r37.2.2.1)]])) (iop .add .i64 x5 1)
 else
 ZbL k x0 x1 x2 x3 x4 (iop .add .i64 x5 1)
 else
 ZbL k x0 x1 x2 x3 x4 (iop .add .i64 x5 1)
 else
 ZbL k x0 x1 x2 x3 x4 (iop .add .i64 x5 1)
 else
 some (x3,x4)):=by kernel_rfl
theorem Zsy (x0:LL) (x1 x2 x3:Int):g61 x0 x1 x2 x3 =
 ((g16 x0).bind fun (r4:LL)=>
 ZbL Zx x1 x2 x3 r4 E0 0):=by kernel_rfl
noncomputable def F35:Fn:=⟨105,[8,9,10,11],[],[],0,[],[],Tryz.f35,[.c (.int .i64),.c (.slice 15),.c (.slice 4),.agg hs0],[.c (.slice 15),.c (.slice 4),.c (.slice 74),.c (.slice 4)],[(56,F56.S),(57,F57.S),(58,F58.S),(59,F59.S),(60,F60.S),(61,F61.S)]⟩
noncomputable def g35 (x0:Int) (x1 x2:LL) (x3 x4 x5 x6 x7 x8 x9 x10 x11 x12 x13:Int) (x14:Bool) (x15 x16 x17 x18 x19 x20 x21 x22 x23 x24 x25 x26 x27 x28 x29 x30 x31 x32 x33 x34:Int) (x35:LL) (x36 x37 x38 x39 x40 x41:Int) (x42:Bool) (x43 x44 x45 x46:LL) (x47 x48:Int) (x49 x50 x51 x52 x53 x54 x55 x56:LL) (x57 x58:Int) (x59 x60 x61 x62 x63 x64 x65 x66:LL) (x67:Bool) (x68:Int) (x69 x70 x71 x72 x73 x74 x75 x76:LL):Option (LL×LL×LL×LL):=F35.S.g [.i x0,.l x1,.l x2,.i x3,.i x4,.i x5,.i x6,.i x7,.i x8,.i x9,.i x10,.i x11,.i x12,.i x13,.b x14,.i x15,.i x16,.i x17,.i x18,.i x19,.i x20,.i x21,.i x22,.i x23,.i x24,.i x25,.i x26,.i x27,.i x28,.i x29,.i x30,.i x31,.i x32,.i x33,.i x34,.l x35,.i x36,.i x37,.i x38,.i x39,.i x40,.i x41,.b x42,.l x43,.l x44,.l x45,.l x46,.i x47,.i x48,.l x49,.l x50,.l x51,.l x52,.l x53,.l x54,.l x55,.l x56,.i x57,.i x58,.l x59,.l x60,.l x61,.l x62,.l x63,.l x64,.l x65,.l x66,.b x67,.i x68,.l x69,.l x70,.l x71,.l x72,.l x73,.l x74,.l x75,.l x76]
theorem ZsO (x0:Int) (x1 x2:LL) (x3 x4 x5 x6 x7 x8 x9 x10 x11 x12 x13:Int) (x14:Bool) (x15 x16 x17 x18 x19 x20 x21 x22 x23 x24 x25 x26 x27 x28 x29 x30 x31 x32 x33 x34:Int) (x35:LL) (x36 x37 x38 x39 x40 x41:Int) (x42:Bool) (x43 x44 x45 x46:LL) (x47 x48:Int) (x49 x50 x51 x52 x53 x54 x55 x56:LL) (x57 x58:Int) (x59 x60 x61 x62 x63 x64 x65 x66:LL) (x67:Bool) (x68:Int) (x69 x70 x71 x72 x73 x74 x75 x76:LL):g35 x0 x1 x2 x3 x4 x5 x6 x7 x8 x9 x10 x11 x12 x13 x14 x15 x16 x17 x18 x19 x20 x21 x22 x23 x24 x25 x26 x27 x28 x29 x30 x31 x32 x33 x34 x35 x36 x37 x38 x39 x40 x41 x42 x43 x44 x45 x46 x47 x48 x49 x50 x51 x52 x53 x54 x55 x56 x57 x58 x59 x60 x61 x62 x63 x64 x65 x66 x67 x68 x69 x70 x71 x72 x73 x74 x75 x76 =
 ((g56 x3 x4 x5 x6 x7 x8 x9 x10 x11 x12 x13 x14 x15 x16 x17 x18 x19 x20 x21 x22 x23 x24 x25 x26 x27 x28 x29 x30 x31 x32 x33 x34 x35 x36 x37 x38 x39 x40 x41 x42 x43 x44 x45 x46 x47 x48 x49 x50 x51 x52 x53 x54 x55 x56 x57 x58 x59 x60 x61 x62 x63 x64 x65 x66 x67 x68 x69 x70 x71 x72 x73 x74 x75 x76).bind fun (r77:Bool)=>
 if (!r77)=true then
 some (x1,x2,E0,E0)
 else
 if (cop .neq x6 x0)=true then
 some (x1,x2,E0,E0)
 else
 if (cop .eql x3 4)=true then
 (g57 x1 x3 x4 x5 x6 x7 x8 x9 x10 x11 x12 x13 x14 x15 x16 x17 x18 x19 x20 x21 x22 x23 x24 x25 x26 x27 x28 x29 x30 x31 x32 x33 x34 x35 x36 x37 x38 x39 x40 x41 x42 x43 x44 x45 x46 x47 x48 x49 x50 x51 x52 x53 x54 x55 x56 x57 x58 x59 x60 x61 x62 x63 x64 x65 x66 x67 x68 x69 x70 x71 x72 x73 x74 x75 x76).bind fun (r78:LL×Int)=>
 if (cop .eql r78.2 0)=true then
 some (r78.1,x2,(E0++[[I 5,I 0,I 0,I x5,I 0,I x8,I 0,I x10,I x11,I x12,I r78.2,AV.val (.bool false),I 0,I 0,I 0,I 0,I 0,I 0,I 0,I 0,I 0,I 0,I 0,I 0,I 0,I 0,I 0,I 0,I 0,I 0,I 0,I 0,AV.slice false 3 E0,I 0,I 0,I 0,I 0,I 0,I 0,AV.val (.bool false),AV.slice false 3 E0,AV.slice false 11 E0,AV.slice false 1 E0,AV.slice false 2 E0,I 0,I 0,AV.slice false 1 E0,AV.slice false 1 E0,AV.slice false 15 E0,AV.slice false 28 E0,AV.slice false 4 E0,AV.slice false 2 E0,AV.slice false 13 E0,AV.slice false 3 E0,I 0,I 0,AV.slice false 1 E0,AV.slice false 1 E0,AV.slice false 15 E0,AV.slice false 28 E0,AV.slice false 4 E0,AV.slice false 2 E0,AV.slice false 13 E0,AV.slice false 3 E0,AV.val (.bool false),I 0,AV.slice false 1 E0,AV.slice false 1 E0,AV.slice false 15 E0,AV.slice false 28 E0,AV.slice false 4 E0,AV.slice false 2 E0,AV.slice false 13 E0,AV.slice false 3 E0]]),(E0++[[AV.val (.int .i64 x10),AV.val (.int .i64 x11),AV.val (.int .i64 x12),AV.val (.bool true)]]))
 else
 if (cop .eql r78.2 3)=true then
 some (x1,x2,(E0++[[I 5,I 0,I 0,I x5,I 0,I x8,I 0,I x10,I x11,I x12,I r78.2,AV.val (.bool false),I 0,I 0,I 0,I 0,I 0,I 0,I 0,I 0,I 0,I 0,I 0,I 0,I 0,I 0,I 0,I 0,I 0,I 0,I 0,I 0,AV.slice false 3 E0,I 0,I 0,I 0,I 0,I 0,I 0,AV.val (.bool false),AV.slice false 3 E0,AV.slice false 11 E0,AV.slice false 1 E0,AV.slice false 2 E0,I 0,I 0,AV.slice false 1 E0,AV.slice false 1 E0,AV.slice false 15 E0,AV.slice false 28 E0,AV.slice false 4 E0,AV.slice false 2 E0,AV.slice false 13 E0,AV.slice false 3 E0,I 0,I 0,AV.slice false 1 E0,AV.slice false 1 E0,AV.slice false 15 E0,AV.slice false 28 E0,AV.slice false 4 E0,AV.slice false 2 E0,AV.slice false 13 E0,AV.slice false 3 E0,AV.val (.bool false),I 0,AV.slice false 1 E0,AV.slice false 1 E0,AV.slice false 15 E0,AV.slice false 28 E0,AV.slice false 4 E0,AV.slice false 2 E0,AV.slice false 13 E0,AV.slice false 3 E0]]),(E0++[[AV.val (.int .i64 x10),AV.val (.int .i64 x11),AV.val (.int .i64 x12),AV.val (.bool false)]]))
 else
 some (x1,x2,(E0++[[I 5,I 0,I 0,I x5,I 0,I x8,I 0,I x10,I x11,I x12,I r78.2,AV.val (.bool false),I 0,I 0,I 0,I 0,I 0,I 0,I 0,I 0,I 0,I 0,I 0,I 0,I 0,I 0,I 0,I 0,I 0,I 0,I 0,I 0,AV.slice false 3 E0,I 0,I 0,I 0,I 0,I 0,I 0,AV.val (.bool false),AV.slice false 3 E0,AV.slice false 11 E0,AV.slice false 1 E0,AV.slice false 2 E0,I 0,I 0,AV.slice false 1 E0,AV.slice false 1 E0,AV.slice false 15 E0,AV.slice false 28 E0,AV.slice false 4 E0,AV.slice false 2 E0,AV.slice false 13 E0,AV.slice false 3 E0,I 0,I 0,AV.slice false 1 E0,AV.slice false 1 E0,AV.slice false 15 E0,AV.slice false 28 E0,AV.slice false 4 E0,AV.slice false 2 E0,AV.slice false 13 E0,AV.slice false 3 E0,AV.val (.bool false),I 0,AV.slice false 1 E0,AV.slice false 1 E0,AV.slice false 15 E0,AV.slice false 28 E0,AV.slice false 4 E0,AV.slice false 2 E0,AV.slice false 13 E0,AV.slice false 3 E0]]),E0)
 else
 if (cop .eql x3 6)=true then
 (g58 x1 x43 x10 x11 x12).bind fun (r78:LL)=>
 (g59 x2 x8).bind fun (r79:LL)=>
 some (r78,r79,(E0++[[I 7,I 0,I 0,I x5,I 0,I x8,I 0,I x10,I x11,I x12,I 0,AV.val (.bool false),I 0,I 0,I 0,I 0,I 0,I 0,I 0,I 0,I 0,I 0,I 0,I 0,I 0,I 0,I 0,I 0,I 0,I 0,I 0,I 0,AV.slice false 3 E0,I 0,I 0,I 0,I 0,I 0,I 0,AV.val (.bool false),AV.slice false 3 E0,AV.slice false 11 E0,AV.slice false 1 E0,AV.slice false 2 E0,I 0,I 0,AV.slice false 1 E0,AV.slice false 1 E0,AV.slice false 15 E0,AV.slice false 28 E0,AV.slice false 4 E0,AV.slice false 2 E0,AV.slice false 13 E0,AV.slice false 3 E0,I 0,I 0,AV.slice false 1 E0,AV.slice false 1 E0,AV.slice false 15 E0,AV.slice false 28 E0,AV.slice false 4 E0,AV.slice false 2 E0,AV.slice false 13 E0,AV.slice false 3 E0,AV.val (.bool false),I 0,AV.slice false 1 E0,AV.slice false 1 E0,AV.slice false 15 E0,AV.slice false 28 E0,AV.slice false 4 E0,AV.slice false 2 E0,AV.slice false 13 E0,AV.slice false 3 E0]]),E0)
 else
 if (cop .eql x3 8)=true then
 (g60 x2 x8 x10 x11 x12).bind fun (r78:LL)=>
 some (x1,r78,(E0++[[I 9,I 0,I 0,I x5,I 0,I x8,I 0,I x10,I x11,I x12,I 0,AV.val (.bool false),I 0,I 0,I 0,I 0,I 0,I 0,I 0,I 0,I 0,I 0,I 0,I 0,I 0,I 0,I 0,I 0,I 0,I 0,I 0,I 0,AV.slice false 3 E0,I 0,I 0,I 0,I 0,I 0,I 0,AV.val (.bool false),AV.slice false 3 E0,AV.slice false 11 E0,AV.slice false 1 E0,AV.slice false 2 E0,I 0,I 0,AV.slice false 1 E0,AV.slice false 1 E0,AV.slice false 15 E0,AV.slice false 28 E0,AV.slice false 4 E0,AV.slice false 2 E0,AV.slice false 13 E0,AV.slice false 3 E0,I 0,I 0,AV.slice false 1 E0,AV.slice false 1 E0,AV.slice false 15 E0,AV.slice false 28 E0,AV.slice false 4 E0,AV.slice false 2 E0,AV.slice false 13 E0,AV.slice false 3 E0,AV.val (.bool false),I 0,AV.slice false 1 E0,AV.slice false 1 E0,AV.slice false 15 E0,AV.slice false 28 E0,AV.slice false 4 E0,AV.slice false 2 E0,AV.slice false 13 E0,AV.slice false 3 E0]]),E0)
 else
 if (cop .eql x3 10)=true then
 (g61 x1 x10 x11 x12).bind fun (r78:LL×LL)=>
 some (r78.1,x2,(E0++[[I 11,I 0,I 0,I x5,I 0,I x8,I 0,I x10,I x11,I x12,I 0,AV.val (.bool false),I 0,I 0,I 0,I 0,I 0,I 0,I 0,I 0,I 0,I 0,I 0,I 0,I 0,I 0,I 0,I 0,I 0,I 0,I 0,I 0,AV.slice false 3 E0,I 0,I 0,I 0,I 0,I 0,I 0,AV.val (.bool false),AV.slice false 3 E0,AV.slice false 11 E0,AV.slice false 1 E0,AV.slice false 2 E0,I 0,I 0,AV.slice false 1 E0,AV.slice false 1 E0,AV.slice false 15 E0,AV.slice false 28 E0,AV.slice false 4 E0,AV.slice false 2 E0,AV.slice false 13 E0,AV.slice false 3 E0,I 0,I 0,AV.slice false 1 E0,AV.slice false 1 E0,AV.slice false 15 E0,AV.slice false 28 E0,AV.slice false 4 E0,AV.slice false 2 E0,AV.slice false 13 E0,AV.slice false 3 E0,AV.val (.bool false),I 0,AV.slice false 1 E0,AV.slice false 1 E0,AV.slice false 15 E0,AV.slice false 28 E0,AV.slice false 4 E0,AV.slice false 2 E0,AV.slice false 13 E0,AV.slice false 3 E0]]),E0)
 else
 some (x1,x2,E0,E0)):=by kernel_rfl
noncomputable def F63:Fn:=⟨8,[2],[],[],0,[2,5,7],[],Tryz.f63,[.c (.slice 15)],[.c (.own true 60)],[]⟩
theorem Zz8:F63.S.Ok Tryz.prog 63:=F63.ok Tryz.func63 (by kernel_rfl) trivial
noncomputable def g63 (x0:LL):Option (LL):=F63.S.g [.l x0]
theorem Zt0 (x0:LL):g63 x0 =
 (ZoO x0 fun r1=>
 if r1=true then
 some (E0)
 else
 Zw (Ja E0 x0 136)<|
 some ((E0++x0))):=by kernel_rfl
noncomputable def ZvH:Fn:=⟨8,[2],[],[],0,[2,5,7],[],Tryz.f109,[.c (.slice 3)],[.c (.own true 37)],[]⟩
theorem Zv8:ZvH.S.Ok Tryz.prog 109:=ZvH.ok Tryz.func109 (by kernel_rfl) trivial
noncomputable def ZxI (x0:LL):Option (LL):=ZvH.S.g [.l x0]
theorem ZrX (x0:LL):ZxI x0 =
 (ZoO x0 fun r1=>
 if r1=true then
 some (E0)
 else
 Zw (Ja E0 x0 24)<|
 some ((E0++x0))):=by kernel_rfl
noncomputable def F64:Fn:=⟨8,[2],[],[],0,[],[(2,[(1,4)])],Tryz.f64,[.agg hs8],[.agg hs8],[(109,ZvH.S)]⟩
theorem ZyN:F64.S.Ok Tryz.prog 64:=F64.ok Tryz.func64 (by kernel_rfl) ⟨Zv8,trivial⟩
noncomputable def g64 (x0 x1 x2:Int) (x3:LL) (x4 x5 x6 x7 x8 x9:Int) (x10:Bool):Option (Qt17):=F64.S.g [.i x0,.i x1,.i x2,.l x3,.i x4,.i x5,.i x6,.i x7,.i x8,.i x9,.b x10]
theorem Zs4 (x0 x1 x2:Int) (x3:LL) (x4 x5 x6 x7 x8 x9:Int) (x10:Bool):g64 x0 x1 x2 x3 x4 x5 x6 x7 x8 x9 x10 =
 ((ZxI x3).bind fun (r11:LL)=>
 some (x0,x1,x2,r11,x4,x5,x6,x7,x8,x9,x10)):=by kernel_rfl
noncomputable def F38:Fn:=⟨24,[2],[(3,[(3,.c (.own true 60)),(8,.c (.int .i64)),(9,.c (.int .i64))])],[],0,[2],[],Tryz.f38,[.c (.slice 15)],[.c (.own true 60)],[(63,F63.S),(64,F64.S)]⟩
theorem Zvy:F38.S.Ok Tryz.prog 38:=F38.ok Tryz.func38 (by kernel_rfl) ⟨Zz8,⟨ZyN,trivial⟩⟩
noncomputable def g38 (x0:LL):Option (LL):=F38.S.g [.l x0]
noncomputable def ZhP (k:Nat) (x0:LL) (x1 x2:Int):Option (LL):=F38.lp [2] 0 r0 k [.l x0,.i x1,.i x2]
theorem ZjF (k:Nat) (x0:LL) (x1 x2:Int):ZhP (k+1) x0 x1 x2 =
 (if (cop .lss x2 x1)=true then
 Zw ((0:Int)≤x2)<|
 Zw ((x2:Int) < (List.length x0:Int))<|
 Zi x0 x2 hs6 fun (r3:Qt11)=>
 (g64 r3.1 r3.2.1 r3.2.2.1 r3.2.2.2.1 r3.2.2.2.2.1 r3.2.2.2.2.2.1 r3.2.2.2.2.2.2.1 r3.2.2.2.2.2.2.2.1 r3.2.2.2.2.2.2.2.2.1 r3.2.2.2.2.2.2.2.2.2.1 r3.2.2.2.2.2.2.2.2.2.2.1).bind fun (r18:Qt17)=>
 Zw ((0:Int)≤x2)<|
 Zw ((x2:Int) < (List.length x0:Int))<|
 Zw ((0:Int)≤x2)<|
 Zw ((x2:Int) < (List.length x0:Int))<|
 ZhP k (Zy x0 (Int.toNat x2) 0 [AV.val (.int .i64 r18.1),AV.val (.int .i64 r18.2.1),AV.val (.int .i64 r18.2.2.1),AV.slice false 3 r18.2.2.2.1,AV.val (.int .i64 r18.2.2.2.2.1),AV.val (.int .i64 r18.2.2.2.2.2.1),AV.val (.int .i64 r18.2.2.2.2.2.2.1),AV.val (.int .i64 r18.2.2.2.2.2.2.2.1),AV.val (.int .i64 r18.2.2.2.2.2.2.2.2.1),AV.val (.int .i64 r18.2.2.2.2.2.2.2.2.2.1),AV.val (.bool r18.2.2.2.2.2.2.2.2.2.2)]) x1 (iop .add .i64 x2 1)
 else
 some (x0)):=by kernel_rfl
theorem ZtM (x0:LL):g38 x0 =
 ((g63 x0).bind fun (r1:LL)=>
 ZhP Zx r1 (List.length r1:Int) 0):=by kernel_rfl
noncomputable def F39:Fn:=⟨8,[2],[],[],0,[2,5,7],[],Tryz.f39,[.c (.slice 4)],[.c (.own true 62)],[]⟩
theorem ZAm:F39.S.Ok Tryz.prog 39:=F39.ok Tryz.func39 (by kernel_rfl) trivial
noncomputable def g39 (x0:LL):Option (LL):=F39.S.g [.l x0]
theorem Zus (x0:LL):g39 x0 =
 (ZoO x0 fun r1=>
 if r1=true then
 some (E0)
 else
 Zw (Ja E0 x0 32)<|
 some ((E0++x0))):=by kernel_rfl
noncomputable def F71:Fn:=⟨12,[2],[],[],0,[],[],Tryz.f71,[.agg hs6],[.c (.bool)],[]⟩
theorem Zz5:F71.S.Ok Tryz.prog 71:=F71.ok Tryz.func71 (by kernel_rfl) trivial
noncomputable def g71 (x0 x1 x2:Int) (x3:LL) (x4 x5 x6 x7 x8 x9:Int) (x10:Bool) (x11 x12 x13 x14:Int):Option (Bool):=F71.S.g [.i x0,.i x1,.i x2,.l x3,.i x4,.i x5,.i x6,.i x7,.i x8,.i x9,.b x10,.i x11,.i x12,.i x13,.i x14]
theorem Zul (x0 x1 x2:Int) (x3:LL) (x4 x5 x6 x7 x8 x9:Int) (x10:Bool) (x11 x12 x13 x14:Int):g71 x0 x1 x2 x3 x4 x5 x6 x7 x8 x9 x10 x11 x12 x13 x14 =
 (if (cop .neq x11 0)=true then
 some (true)
 else
 some ((!((cop .eql x12 0)&&((cop .eql x13 0)&&((cop .eql x14 0)&&true)))))):=by kernel_rfl
noncomputable def F73:Fn:=⟨49,[6,7],[],[],0,[6],[],Tryz.f73,[.c (.slice 15),.c (.int .i64),.agg hs8],[.c (.own true 60),.c (.int .i64)],[(134,Zsb.S),(116,Zpl.S),(72,F72.S),(38,F38.S),(64,F64.S)]⟩
theorem ZzR:F73.S.Ok Tryz.prog 73:=F73.ok Tryz.func73 (by kernel_rfl) ⟨Zsq,⟨ZmQ,⟨Zr9,⟨Zvy,⟨ZyN,trivial⟩⟩⟩⟩⟩
noncomputable def g73 (x0:LL) (x1 x2 x3 x4:Int) (x5:LL) (x6 x7 x8 x9 x10 x11:Int) (x12:Bool):Option (LL×Int):=F73.S.g [.l x0,.i x1,.i x2,.i x3,.i x4,.l x5,.i x6,.i x7,.i x8,.i x9,.i x10,.i x11,.b x12]
theorem ZtX (x0:LL) (x1 x2 x3 x4:Int) (x5:LL) (x6 x7 x8 x9 x10 x11:Int) (x12:Bool):g73 x0 x1 x2 x3 x4 x5 x6 x7 x8 x9 x10 x11 x12 =
 ((ZvB x0 x2 x3 x4).bind fun (r13:Int×Bool)=>
 if (cop .lss x1 0)=true then
 some (E0,1)
 else
 if (cop .geq x1 (List.length x0:Int))=true then
 some (E0,1)
 else
 (Zpw x2 x3 x4 x5 x6 x7 x8 x9 x10 x11 x12).bind fun (r15:Bool)=>
 if (!r15)=true then
 some (E0,1)
 else
 if r13.2=true then
 some (E0,1)
 else
 Zi x0 x1 hs6 fun (r16:Qt11)=>
 (g72 r16.1 r16.2.1 r16.2.2.1 r16.2.2.2.1 r16.2.2.2.2.1 r16.2.2.2.2.2.1 r16.2.2.2.2.2.2.1 r16.2.2.2.2.2.2.2.1 r16.2.2.2.2.2.2.2.2.1 r16.2.2.2.2.2.2.2.2.2.1 r16.2.2.2.2.2.2.2.2.2.2.1 r16.2.2.2.2.2.2.2.2.2.2.2.1 (d4 (d8 r16)).1 (d4 (d8 r16)).2.1 (d2 (d4 (d8 r16)))).bind fun (r31:Bool)=>
 if (!r31)=true then
 some (E0,3)
 else
 (g38 x0).bind fun (r32:LL)=>
 (g64 x2 x3 x4 x5 x6 x7 x8 x9 x10 x11 x12).bind fun (r33:Qt17)=>
 Zw ((0:Int)≤x1)<|
 Zw ((x1:Int) < (List.length r32:Int))<|
 Zw ((0:Int)≤x1)<|
 Zw ((x1:Int) < (List.length r32:Int))<|
 some ((Zy r32 (Int.toNat x1) 0 [AV.val (.int .i64 r33.1),AV.val (.int .i64 r33.2.1),AV.val (.int .i64 r33.2.2.1),AV.slice false 3 r33.2.2.2.1,AV.val (.int .i64 r33.2.2.2.2.1),AV.val (.int .i64 r33.2.2.2.2.2.1),AV.val (.int .i64 r33.2.2.2.2.2.2.1),AV.val (.int .i64 r33.2.2.2.2.2.2.2.1),AV.val (.int .i64 r33.2.2.2.2.2.2.2.2.1),AV.val (.int .i64 r33.2.2.2.2.2.2.2.2.2.1),AV.val (.bool r33.2.2.2.2.2.2.2.2.2.2)]),0)):=by kernel_rfl
noncomputable def F41:Fn:=⟨46,[4,5],[],[],0,[],[(11,[(7,0)])],Tryz.f41,[.c (.slice 15),.agg hs0],[.c (.slice 15),.c (.int .i64)],[(71,F71.S),(72,F72.S),(73,F73.S)]⟩
theorem ZAf:F41.S.Ok Tryz.prog 41:=F41.ok Tryz.func41 (by kernel_rfl) ⟨Zz5,⟨Zr9,⟨ZzR,trivial⟩⟩⟩
noncomputable def g41 (x0:LL) (x1 x2 x3 x4 x5 x6 x7 x8 x9 x10 x11:Int) (x12:Bool) (x13 x14 x15 x16 x17 x18 x19 x20 x21 x22 x23 x24 x25 x26 x27 x28 x29 x30 x31 x32:Int) (x33:LL) (x34 x35 x36 x37 x38 x39:Int) (x40:Bool) (x41 x42 x43 x44:LL) (x45 x46:Int) (x47 x48 x49 x50 x51 x52 x53 x54:LL) (x55 x56:Int) (x57 x58 x59 x60 x61 x62 x63 x64:LL) (x65:Bool) (x66:Int) (x67 x68 x69 x70 x71 x72 x73 x74:LL):Option (LL×Int):=F41.S.g [.l x0,.i x1,.i x2,.i x3,.i x4,.i x5,.i x6,.i x7,.i x8,.i x9,.i x10,.i x11,.b x12,.i x13,.i x14,.i x15,.i x16,.i x17,.i x18,.i x19,.i x20,.i x21,.i x22,.i x23,.i x24,.i x25,.i x26,.i x27,.i x28,.i x29,.i x30,.i x31,.i x32,.l x33,.i x34,.i x35,.i x36,.i x37,.i x38,.i x39,.b x40,.l x41,.l x42,.l x43,.l x44,.i x45,.i x46,.l x47,.l x48,.l x49,.l x50,.l x51,.l x52,.l x53,.l x54,.i x55,.i x56,.l x57,.l x58,.l x59,.l x60,.l x61,.l x62,.l x63,.l x64,.b x65,.i x66,.l x67,.l x68,.l x69,.l x70,.l x71,.l x72,.l x73,.l x74]
theorem Ztk (x0:LL) (x1 x2 x3 x4 x5 x6 x7 x8 x9 x10 x11:Int) (x12:Bool) (x13 x14 x15 x16 x17 x18 x19 x20 x21 x22 x23 x24 x25 x26 x27 x28 x29 x30 x31 x32:Int) (x33:LL) (x34 x35 x36 x37 x38 x39:Int) (x40:Bool) (x41 x42 x43 x44:LL) (x45 x46:Int) (x47 x48 x49 x50 x51 x52 x53 x54:LL) (x55 x56:Int) (x57 x58 x59 x60 x61 x62 x63 x64:LL) (x65:Bool) (x66:Int) (x67 x68 x69 x70 x71 x72 x73 x74:LL):g41 x0 x1 x2 x3 x4 x5 x6 x7 x8 x9 x10 x11 x12 x13 x14 x15 x16 x17 x18 x19 x20 x21 x22 x23 x24 x25 x26 x27 x28 x29 x30 x31 x32 x33 x34 x35 x36 x37 x38 x39 x40 x41 x42 x43 x44 x45 x46 x47 x48 x49 x50 x51 x52 x53 x54 x55 x56 x57 x58 x59 x60 x61 x62 x63 x64 x65 x66 x67 x68 x69 x70 x71 x72 x73 x74 =
 (Zi x42 0 hs8 fun (r75:Qt17)=>
 if (cop .geq x7 (List.length x0:Int))=true then
 some (x0,1)
 else
 Zi x0 x7 hs6 fun (r86:Qt11)=>
 (g71 r86.1 r86.2.1 r86.2.2.1 r86.2.2.2.1 r86.2.2.2.2.1 r86.2.2.2.2.2.1 r86.2.2.2.2.2.2.1 r86.2.2.2.2.2.2.2.1 r86.2.2.2.2.2.2.2.2.1 r86.2.2.2.2.2.2.2.2.2.1 r86.2.2.2.2.2.2.2.2.2.2.1 r86.2.2.2.2.2.2.2.2.2.2.2.1 (d4 (d8 r86)).1 (d4 (d8 r86)).2.1 (d2 (d4 (d8 r86)))).bind fun (r101:Bool)=>
 if r101=true then
 some (x0,4)
 else
 Zi x0 x7 hs6 fun (r102:Qt11)=>
 (g72 r102.1 r102.2.1 r102.2.2.1 r102.2.2.2.1 r102.2.2.2.2.1 r102.2.2.2.2.2.1 r102.2.2.2.2.2.2.1 r102.2.2.2.2.2.2.2.1 r102.2.2.2.2.2.2.2.2.1 r102.2.2.2.2.2.2.2.2.2.1 r102.2.2.2.2.2.2.2.2.2.2.1 r102.2.2.2.2.2.2.2.2.2.2.2.1 (d4 (d8 r102)).1 (d4 (d8 r102)).2.1 (d2 (d4 (d8 r102)))).bind fun (r117:Bool)=>
 if (!r117)=true then
 some (x0,3)
 else
 (g73 x0 x7 r75.1 r75.2.1 r75.2.2.1 r75.2.2.2.1 r75.2.2.2.2.1 r75.2.2.2.2.2.1 r75.2.2.2.2.2.2.1 r75.2.2.2.2.2.2.2.1 r75.2.2.2.2.2.2.2.2.1 r75.2.2.2.2.2.2.2.2.2.1 r75.2.2.2.2.2.2.2.2.2.2).bind fun (r118:LL×Int)=>
 if (cop .neq r118.2 0)=true then
 some (x0,1)
 else
 some (r118.1,0)):=by kernel_rfl
noncomputable def F75:Fn:=⟨8,[3],[],[1],0,[],[],Tryz.f75,[.agg [.int .i64,.int .i64,.int .i64,.int .i64],.box [.int .i64]],[.c (.bool)],[]⟩
theorem ZyZ:F75.S.Ok Tryz.prog 75:=F75.ok Tryz.func75 (by kernel_rfl) trivial
noncomputable def g75 (x0 x1 x2 x3 x4:Int):Option (Bool×Int):=F75.S.g [.i x0,.i x1,.i x2,.i x3,.i x4]
theorem ZpJ (x0 x1 x2 x3 x4:Int):g75 x0 x1 x2 x3 x4 =
 (some ((cop .eql x0 x4),x4)):=by kernel_rfl
noncomputable def ZcS:Fn:=⟨19,[4],[(2,[(0,.c (.slice 4)),(1,.clo 75 [19]),(7,.c (.int .i64)),(8,.c (.int .i64)),(19,.gbox [.int .i64])])],[],1,[],[],Tryz.f135,[.c (.slice 4),.clo 75 [19],.dead,.dead,.dead,.dead,.dead,.dead,.dead,.dead,.dead,.dead,.dead,.dead,.dead,.dead,.dead,.dead,.dead,.gbox [.int .i64]],[.c (.int .i64)],[(75,F75.S)]⟩
theorem Zof:ZcS.S.Ok Tryz.prog 135:=ZcS.ok Tryz.func135 (by kernel_rfl) ⟨ZyZ,trivial⟩
noncomputable def ZiA (x0:LL) (x1:Int):Option (Int×Int):=ZcS.S.g [.l x0,.i x1]
noncomputable def K5 (k:Nat) (x0:LL) (x1 x2 x3:Int):Option (Int×Int):=ZcS.lp [0] 0 r0 k [.l x0,.i x1,.i x2,.i x3]
theorem ZbQ (k:Nat) (x0:LL) (x1 x2 x3:Int):K5 (k+1) x0 x1 x2 x3 =
 (if (cop .lss x2 x1)=true then
 Zi x0 x2 [.int .i64,.int .i64,.int .i64,.int .i64] fun (r4:Int×Int×Int×Int)=>
 (g75 r4.1 r4.2.1 r4.2.2.1 r4.2.2.2 x3).bind fun (r8:Bool×Int)=>
 if r8.1=true then
 some (x2,r8.2)
 else
 K5 k x0 x1 (iop .add .i64 x2 1) r8.2
 else
 some ((-1),x3)):=by kernel_rfl
theorem ZkD (x0:LL) (x1:Int):ZiA x0 x1 =
 (K5 Zx x0 (List.length x0:Int) 0 x1):=by kernel_rfl
noncomputable def Zg7:Fn:=⟨42,[4],[(5,[(0,.c (.own true 62)),(1,.clo 75 [42]),(5,.c (.int .i64)),(6,.c (.int .i64)),(42,.gbox [.int .i64])])],[],1,[4],[],Tryz.f74,[.c (.own true 62),.clo 75 [42],.dead,.dead,.dead,.dead,.dead,.dead,.dead,.dead,.dead,.dead,.dead,.dead,.dead,.dead,.dead,.dead,.dead,.dead,.dead,.dead,.dead,.dead,.dead,.dead,.dead,.dead,.dead,.dead,.dead,.dead,.dead,.dead,.dead,.dead,.dead,.dead,.dead,.dead,.dead,.dead,.gbox [.int .i64]],[.c (.own true 62)],[(135,ZcS.S),(75,F75.S)]⟩
theorem Zqu:Zg7.S.Ok Tryz.prog 74:=Zg7.ok Tryz.func74 (by kernel_rfl) ⟨Zof,⟨ZyZ,trivial⟩⟩
noncomputable def ZpN (x0:LL) (x1:Int):Option (LL×Int):=Zg7.S.g [.l x0,.i x1]
noncomputable def Zaf (k:Nat) (x0:LL) (x1 x2 x3:Int):Option (LL×Int):=Zg7.lp [0,1,0] 0 r0 k [.l x0,.i x1,.i x2,.i x3]
theorem ZdK (k:Nat) (x0:LL) (x1 x2 x3:Int):Zaf (k+1) x0 x1 x2 x3 =
 (if (cop .lss x2 (List.length x0:Int))=true then
 Zw ((0:Int)≤x2)<|
 Zw ((x2:Int) < (List.length x0:Int))<|
 Zi x0 x2 [.int .i64,.int .i64,.int .i64,.int .i64] fun (r4:Int×Int×Int×Int)=>
 (g75 r4.1 r4.2.1 r4.2.2.1 r4.2.2.2 x3).bind fun (r8:Bool×Int)=>
 if (!r8.1)=true then
 Zw ((0:Int)≤x1)<|
 Zw ((x1:Int) < (List.length x0:Int))<|
 Zw ((0:Int)≤x1)<|
 Zw ((x1:Int) < (List.length x0:Int))<|
 Zaf k (Zy x0 (Int.toNat x1) 0 [AV.val (.int .i64 r4.1),AV.val (.int .i64 r4.2.1),AV.val (.int .i64 r4.2.2.1),AV.val (.int .i64 r4.2.2.2)]) (iop .add .i64 x1 1) (iop .add .i64 x2 1) r8.2
 else
 Zaf k x0 x1 (iop .add .i64 x2 1) r8.2
 else
 Zw ((0:Int)≤x1)<|
 Zw ((x1:Int)≤(List.length x0:Int))<|
 Zw ((0:Int)≤x1)<|
 Zw ((x1:Int)≤(List.length ((List.take (Int.toNat x1) x0)++(List.replicate (Int.toNat (iop .sub .i64 (List.length x0:Int) x1)) [AV.val (.int .i64 0),AV.val (.int .i64 0),AV.val (.int .i64 0),AV.val (.int .i64 0)])):Int))<|
 some ((List.take (Int.toNat x1) ((List.take (Int.toNat x1) x0)++(List.replicate (Int.toNat (iop .sub .i64 (List.length x0:Int) x1)) [AV.val (.int .i64 0),AV.val (.int .i64 0),AV.val (.int .i64 0),AV.val (.int .i64 0)]))),x3)):=by kernel_rfl
theorem Zl5 (x0:LL) (x1:Int):ZpN x0 x1 =
 ((ZiA x0 x1).bind fun (r2:Int×Int)=>
 if (cop .eql r2.1 (-1))=true then
 some (x0,r2.2)
 else
 Zaf Zx x0 r2.1 (iop .add .i64 r2.1 1) r2.2):=by kernel_rfl
noncomputable def F42:Fn:=⟨8,[4],[],[],0,[4],[],Tryz.f42,[.c (.own true 62),.c (.int .i64)],[.c (.own true 62)],[(74,Zg7.S)]⟩
theorem Zy2:F42.S.Ok Tryz.prog 42:=F42.ok Tryz.func42 (by kernel_rfl) ⟨Zqu,trivial⟩
noncomputable def g42 (x0:LL) (x1:Int):Option (LL):=F42.S.g [.l x0,.i x1]
theorem ZuZ (x0:LL) (x1:Int):g42 x0 x1 =
 ((ZpN x0 x1).bind fun (r2:LL×Int)=>
 some (r2.1)):=by kernel_rfl
noncomputable def F43:Fn:=⟨39,[6],[(3,[(1,.c (.slice 3)),(5,.box [.int .i64,.int .i64,.int .i64]),(7,.c (.own true 60)),(12,.c (.int .i64)),(13,.c (.int .i64))])],[],0,[6],[],Tryz.f43,[.c (.slice 15),.c (.slice 3),.agg [.int .i64,.int .i64,.int .i64]],[.c (.own true 60)],[(38,F38.S),(72,F72.S),(76,F76.S)]⟩
theorem Zzk:F43.S.Ok Tryz.prog 43:=F43.ok Tryz.func43 (by kernel_rfl) ⟨Zvy,⟨Zr9,⟨Zyv,trivial⟩⟩⟩
noncomputable def g43 (x0 x1:LL) (x2 x3 x4:Int):Option (LL):=F43.S.g [.l x0,.l x1,.i x2,.i x3,.i x4]
noncomputable def ZfS (k:Nat) (x0:LL) (x1 x2 x3:Int) (x4:LL) (x5 x6:Int):Option (LL):=F43.lp [2] 0 r0 k [.l x0,.i x1,.i x2,.i x3,.l x4,.i x5,.i x6]
theorem Zjo (k:Nat) (x0:LL) (x1 x2 x3:Int) (x4:LL) (x5 x6:Int):ZfS (k+1) x0 x1 x2 x3 x4 x5 x6 =
 (if (cop .lss x6 x5)=true then
 Zw ((0:Int)≤x6)<|
 Zw ((x6:Int) < (List.length x4:Int))<|
 Zi x4 x6 hs6 fun (r7:Qt11)=>
 (g72 r7.1 r7.2.1 r7.2.2.1 r7.2.2.2.1 r7.2.2.2.2.1 r7.2.2.2.2.2.1 r7.2.2.2.2.2.2.1 r7.2.2.2.2.2.2.2.1 r7.2.2.2.2.2.2.2.2.1 r7.2.2.2.2.2.2.2.2.2.1 r7.2.2.2.2.2.2.2.2.2.2.1 r7.2.2.2.2.2.2.2.2.2.2.2.1 (d4 (d8 r7)).1 (d4 (d8 r7)).2.1 (d2 (d4 (d8 r7)))).bind fun (r22:Bool)=>
 if (!r22)=true then
 Zw ((0:Int)≤x6)<|
 Zw ((x6:Int) < (List.length x4:Int))<|
 Zi x4 x6 hs6 fun (r23:Qt11)=>
 (g76 x0 r23.1 r23.2.1 r23.2.2.1).bind fun (r38:Bool)=>
 if r38=true then
 Zw ((0:Int)≤x6)<|
 Zw ((x6:Int) < (List.length x4:Int))<|
 Zw ((0:Int)≤x6)<|
 Zw ((x6:Int) < (List.length x4:Int))<|
 ZfS k x0 x1 x2 x3 (Zy x4 (Int.toNat x6) 12 [AV.val (.int .i64 x1),AV.val (.int .i64 x2),AV.val (.int .i64 x3)]) x5 (iop .add .i64 x6 1)
 else
 ZfS k x0 x1 x2 x3 x4 x5 (iop .add .i64 x6 1)
 else
 ZfS k x0 x1 x2 x3 x4 x5 (iop .add .i64 x6 1)
 else
 some (x4)):=by kernel_rfl
theorem Zuj (x0 x1:LL) (x2 x3 x4:Int):g43 x0 x1 x2 x3 x4 =
 ((g38 x0).bind fun (r5:LL)=>
 ZfS Zx x1 x2 x3 x4 r5 (List.length r5:Int) 0):=by kernel_rfl
noncomputable def F77.S:Fun:=ZyQ false 62 32
theorem Zy8:F77.S.Ok Tryz.prog 77:=insF_ok (T:=30) (B:=4) (I:=3) (e:=62) (fO:=137) (fR:=138) mixed (by kernel_rfl) Tryz.func77 (by kernel_rfl) ⟨by kernel_rfl,by kernel_rfl,by kernel_rfl⟩ Tryz.func137 (by kernel_rfl) (by kernel_rfl) (by kernel_rfl) (by kernel_rfl)
noncomputable def g77 (x0:LL) (x1:Int) (x2:LL):Option LL:=F77.S.g [.l x0,.i x1,.l x2]
theorem ZuF (x0:LL) (x1:Int) (x2:LL):g77 x0 x1 x2=Zx8 32 x0 x1 x2:=rfl
noncomputable def F44:Fn:=⟨31,[4],[(3,[(0,.c (.own true 62)),(3,.box [.int .i64,.int .i64,.int .i64,.int .i64]),(5,.c (.int .i64))])],[],0,[],[],Tryz.f44,[.c (.own true 62),.agg [.int .i64,.int .i64,.int .i64,.int .i64]],[.c (.own false 62)],[(42,F42.S),(77,F77.S)]⟩
theorem ZAu:F44.S.Ok Tryz.prog 44:=F44.ok Tryz.func44 (by kernel_rfl) ⟨Zy2,⟨Zy8,trivial⟩⟩
noncomputable def g44 (x0:LL) (x1 x2 x3 x4:Int):Option (LL):=F44.S.g [.l x0,.i x1,.i x2,.i x3,.i x4]
noncomputable def Zk1 (k:Nat) (x0:LL) (x1 x2 x3 x4 x5:Int):Option (LL):=F44.lp [2] 0 r0 k [.l x0,.i x1,.i x2,.i x3,.i x4,.i x5]
theorem Zka (k:Nat) (x0:LL) (x1 x2 x3 x4 x5:Int):Zk1 (k+1) x0 x1 x2 x3 x4 x5 =
 (if (cop .lss x5 (List.length x0:Int))=true then
 Zw ((0:Int)≤x5)<|
 Zw ((x5:Int) < (List.length x0:Int))<|
 Zi x0 x5 [.int .i64,.int .i64,.int .i64,.int .i64] fun (r6:Int×Int×Int×Int)=>
 if (cop .lss r6.1 x1)=true then
 Zk1 k x0 x1 x2 x3 x4 (iop .add .i64 x5 1)
 else
 (g77 x0 x5 (E0++[[AV.val (.int .i64 x1),AV.val (.int .i64 x2),AV.val (.int .i64 x3),AV.val (.int .i64 x4)]])).bind fun (r10:LL)=>
 some (r10)
 else
 (g77 x0 x5 (E0++[[AV.val (.int .i64 x1),AV.val (.int .i64 x2),AV.val (.int .i64 x3),AV.val (.int .i64 x4)]])).bind fun (r6:LL)=>
 some (r6)):=by kernel_rfl
theorem Zs8 (x0:LL) (x1 x2 x3 x4:Int):g44 x0 x1 x2 x3 x4 =
 ((g42 x0 x1).bind fun (r5:LL)=>
 Zk1 Zx r5 x1 x2 x3 x4 0):=by kernel_rfl
noncomputable def F45:Fn:=⟨57,[4,5],[(6,[(3,.box [.int .i64,.int .i64,.int .i64]),(6,.c (.own true 60)),(7,.c (.own true 37)),(16,.c (.int .i64)),(17,.c (.int .i64))])],[],0,[4,5,7,43],[],Tryz.f45,[.c (.slice 15),.agg [.int .i64,.int .i64,.int .i64]],[.c (.own true 60),.c (.own true 37)],[(38,F38.S),(72,F72.S)]⟩
theorem ZAq:F45.S.Ok Tryz.prog 45:=F45.ok Tryz.func45 (by kernel_rfl) ⟨Zvy,⟨Zr9,trivial⟩⟩
noncomputable def g45 (x0:LL) (x1 x2 x3:Int):Option (LL×LL):=F45.S.g [.l x0,.i x1,.i x2,.i x3]
noncomputable def Ze2 (k:Nat) (x0 x1 x2:Int) (x3 x4:LL) (x5 x6:Int):Option (LL×LL):=F45.lp [0,1,0] 0 r0 k [.i x0,.i x1,.i x2,.l x3,.l x4,.i x5,.i x6]
theorem Zjc (k:Nat) (x0 x1 x2:Int) (x3 x4:LL) (x5 x6:Int):Ze2 (k+1) x0 x1 x2 x3 x4 x5 x6 =
 (if (cop .lss x6 x5)=true then
 Zw ((0:Int)≤x6)<|
 Zw ((x6:Int) < (List.length x3:Int))<|
 Zi x3 x6 hs6 fun (r7:Qt11)=>
 (g72 r7.1 r7.2.1 r7.2.2.1 r7.2.2.2.1 r7.2.2.2.2.1 r7.2.2.2.2.2.1 r7.2.2.2.2.2.2.1 r7.2.2.2.2.2.2.2.1 r7.2.2.2.2.2.2.2.2.1 r7.2.2.2.2.2.2.2.2.2.1 r7.2.2.2.2.2.2.2.2.2.2.1 r7.2.2.2.2.2.2.2.2.2.2.2.1 (d4 (d8 r7)).1 (d4 (d8 r7)).2.1 (d2 (d4 (d8 r7)))).bind fun (r22:Bool)=>
 if (!r22)=true then
 Zw ((0:Int)≤x6)<|
 Zw ((x6:Int) < (List.length x3:Int))<|
 Zi x3 x6 hs6 fun (r23:Qt11)=>
 if ((cop .eql (d4 (d8 r23)).1 x0)&&((cop .eql (d4 (d8 r23)).2.1 x1)&&((cop .eql (d2 (d4 (d8 r23))) x2)&&true)))=true then
 Zw ((0:Int)≤x6)<|
 Zw ((x6:Int) < (List.length x3:Int))<|
 Zi x3 x6 hs6 fun (r38:Qt11)=>
 Zw (Ja x4 (E0++[[AV.val (.int .i64 r38.1),AV.val (.int .i64 r38.2.1),AV.val (.int .i64 r38.2.2.1)]]) 24)<|
 Zw ((0:Int)≤x6)<|
 Zw ((x6:Int) < (List.length x3:Int))<|
 Zw ((0:Int)≤x6)<|
 Zw ((x6:Int) < (List.length x3:Int))<|
 Zw ((0:Int)≤x6)<|
 Zw ((x6:Int) < (List.length (Zy x3 (Int.toNat x6) 0 [AV.val (.int .i64 0),AV.val (.int .i64 0),AV.val (.int .i64 0),AV.slice false 3 E0,AV.val (.int .i64 0),AV.val (.int .i64 0),AV.val (.int .i64 0),AV.val (.int .i64 0),AV.val (.int .i64 0),AV.val (.int .i64 0),AV.val (.bool false)]):Int))<|
 Zw ((0:Int)≤x6)<|
 Zw ((x6:Int) < (List.length (Zy x3 (Int.toNat x6) 0 [AV.val (.int .i64 0),AV.val (.int .i64 0),AV.val (.int .i64 0),AV.slice false 3 E0,AV.val (.int .i64 0),AV.val (.int .i64 0),AV.val (.int .i64 0),AV.val (.int .i64 0),AV.val (.int .i64 0),AV.val (.int .i64 0),AV.val (.bool false)]):Int))<|
 Ze2 k x0 x1 x2 (Zy (Zy x3 (Int.toNat x6) 0 [AV.val (.int .i64 0),AV.val (.int .i64 0),AV.val (.int .i64 0),AV.slice false 3 E0,AV.val (.int .i64 0),AV.val (.int .i64 0),AV.val (.int .i64 0),AV.val (.int .i64 0),AV.val (.int .i64 0),AV.val (.int .i64 0),AV.val (.bool false)]) (Int.toNat x6) 12 [AV.val (.int .i64 0),AV.val (.int .i64 0),AV.val (.int .i64 0)]) (x4++(E0++[[AV.val (.int .i64 r38.1),AV.val (.int .i64 r38.2.1),AV.val (.int .i64 r38.2.2.1)]])) x5 (iop .add .i64 x6 1)
 else
 Ze2 k x0 x1 x2 x3 x4 x5 (iop .add .i64 x6 1)
 else
 Ze2 k x0 x1 x2 x3 x4 x5 (iop .add .i64 x6 1)
 else
 some (x3,x4)):=by kernel_rfl
theorem Ztc (x0:LL) (x1 x2 x3:Int):g45 x0 x1 x2 x3 =
 ((g38 x0).bind fun (r4:LL)=>
 if ((cop .eql x1 0)&&((cop .eql x2 0)&&((cop .eql x3 0)&&true)))=true then
 some (r4,E0)
 else
 Ze2 Zx x1 x2 x3 r4 E0 (List.length r4:Int) 0):=by kernel_rfl
noncomputable def F15:Fn:=⟨105,[8,9,10,11],[],[],0,[],[(10,[(12,0)]),(16,[(12,0)]),(22,[(12,0)]),(3,[(13,0),(12,0)]),(7,[(13,0),(12,0)]),(23,[(13,0),(12,0)])],Tryz.f15,[.c (.int .i64),.c (.slice 15),.c (.slice 4),.agg hs0],[.c (.slice 15),.c (.slice 4),.c (.slice 74),.c (.slice 4)],[(38,F38.S),(39,F39.S),(40,F40.S),(41,F41.S),(42,F42.S),(43,F43.S),(44,F44.S),(45,F45.S)]⟩
theorem ZyO:F15.S.Ok Tryz.prog 15:=F15.ok Tryz.func15 (by kernel_rfl) ⟨Zvy,⟨ZAm,⟨ZAc,⟨ZAf,⟨Zy2,⟨Zzk,⟨ZAu,⟨ZAq,trivial⟩⟩⟩⟩⟩⟩⟩⟩
noncomputable def g15 (x0:Int) (x1 x2:LL) (x3 x4 x5 x6 x7 x8 x9 x10 x11 x12 x13:Int) (x14:Bool) (x15 x16 x17 x18 x19 x20 x21 x22 x23 x24 x25 x26 x27 x28 x29 x30 x31 x32 x33 x34:Int) (x35:LL) (x36 x37 x38 x39 x40 x41:Int) (x42:Bool) (x43 x44 x45 x46:LL) (x47 x48:Int) (x49 x50 x51 x52 x53 x54 x55 x56:LL) (x57 x58:Int) (x59 x60 x61 x62 x63 x64 x65 x66:LL) (x67:Bool) (x68:Int) (x69 x70 x71 x72 x73 x74 x75 x76:LL):Option (LL×LL×LL×LL):=F15.S.g [.i x0,.l x1,.l x2,.i x3,.i x4,.i x5,.i x6,.i x7,.i x8,.i x9,.i x10,.i x11,.i x12,.i x13,.b x14,.i x15,.i x16,.i x17,.i x18,.i x19,.i x20,.i x21,.i x22,.i x23,.i x24,.i x25,.i x26,.i x27,.i x28,.i x29,.i x30,.i x31,.i x32,.i x33,.i x34,.l x35,.i x36,.i x37,.i x38,.i x39,.i x40,.i x41,.b x42,.l x43,.l x44,.l x45,.l x46,.i x47,.i x48,.l x49,.l x50,.l x51,.l x52,.l x53,.l x54,.l x55,.l x56,.i x57,.i x58,.l x59,.l x60,.l x61,.l x62,.l x63,.l x64,.l x65,.l x66,.b x67,.i x68,.l x69,.l x70,.l x71,.l x72,.l x73,.l x74,.l x75,.l x76]
theorem ZuJ (x0:Int) (x1 x2:LL) (x3 x4 x5 x6 x7 x8 x9 x10 x11 x12 x13:Int) (x14:Bool) (x15 x16 x17 x18 x19 x20 x21 x22 x23 x24 x25 x26 x27 x28 x29 x30 x31 x32 x33 x34:Int) (x35:LL) (x36 x37 x38 x39 x40 x41:Int) (x42:Bool) (x43 x44 x45 x46:LL) (x47 x48:Int) (x49 x50 x51 x52 x53 x54 x55 x56:LL) (x57 x58:Int) (x59 x60 x61 x62 x63 x64 x65 x66:LL) (x67:Bool) (x68:Int) (x69 x70 x71 x72 x73 x74 x75 x76:LL):g15 x0 x1 x2 x3 x4 x5 x6 x7 x8 x9 x10 x11 x12 x13 x14 x15 x16 x17 x18 x19 x20 x21 x22 x23 x24 x25 x26 x27 x28 x29 x30 x31 x32 x33 x34 x35 x36 x37 x38 x39 x40 x41 x42 x43 x44 x45 x46 x47 x48 x49 x50 x51 x52 x53 x54 x55 x56 x57 x58 x59 x60 x61 x62 x63 x64 x65 x66 x67 x68 x69 x70 x71 x72 x73 x74 x75 x76 =
 ((g38 x1).bind fun (r77:LL)=>
 (g39 x2).bind fun (r78:LL)=>
 (g40 x3 x4 x5 x6 x7 x8 x9 x10 x11 x12 x13 x14 x15 x16 x17 x18 x19 x20 x21 x22 x23 x24 x25 x26 x27 x28 x29 x30 x31 x32 x33 x34 x35 x36 x37 x38 x39 x40 x41 x42 x43 x44 x45 x46 x47 x48 x49 x50 x51 x52 x53 x54 x55 x56 x57 x58 x59 x60 x61 x62 x63 x64 x65 x66 x67 x68 x69 x70 x71 x72 x73 x74 x75 x76).bind fun (r79:Bool)=>
 if (!r79)=true then
 some (r77,r78,E0,E0)
 else
 if (cop .neq x6 x0)=true then
 some (r77,r78,E0,E0)
 else
 if (cop .eql x3 4)=true then
 (g41 r77 x3 x4 x5 x6 x7 x8 x9 x10 x11 x12 x13 x14 x15 x16 x17 x18 x19 x20 x21 x22 x23 x24 x25 x26 x27 x28 x29 x30 x31 x32 x33 x34 x35 x36 x37 x38 x39 x40 x41 x42 x43 x44 x45 x46 x47 x48 x49 x50 x51 x52 x53 x54 x55 x56 x57 x58 x59 x60 x61 x62 x63 x64 x65 x66 x67 x68 x69 x70 x71 x72 x73 x74 x75 x76).bind fun (r80:LL×Int)=>
 if (cop .eql r80.2 0)=true then
 some (r80.1,r78,(E0++[[I 5,I 0,I 0,I x5,I 0,I x8,I 0,I x10,I x11,I x12,I r80.2,AV.val (.bool false),I 0,I 0,I 0,I 0,I 0,I 0,I 0,I 0,I 0,I 0,I 0,I 0,I 0,I 0,I 0,I 0,I 0,I 0,I 0,I 0,AV.slice false 3 E0,I 0,I 0,I 0,I 0,I 0,I 0,AV.val (.bool false),AV.slice false 3 E0,AV.slice false 11 E0,AV.slice false 1 E0,AV.slice false 2 E0,I 0,I 0,AV.slice false 1 E0,AV.slice false 1 E0,AV.slice false 15 E0,AV.slice false 28 E0,AV.slice false 4 E0,AV.slice false 2 E0,AV.slice false 13 E0,AV.slice false 3 E0,I 0,I 0,AV.slice false 1 E0,AV.slice false 1 E0,AV.slice false 15 E0,AV.slice false 28 E0,AV.slice false 4 E0,AV.slice false 2 E0,AV.slice false 13 E0,AV.slice false 3 E0,AV.val (.bool false),I 0,AV.slice false 1 E0,AV.slice false 1 E0,AV.slice false 15 E0,AV.slice false 28 E0,AV.slice false 4 E0,AV.slice false 2 E0,AV.slice false 13 E0,AV.slice false 3 E0]]),(E0++[[AV.val (.int .i64 x10),AV.val (.int .i64 x11),AV.val (.int .i64 x12),AV.val (.bool (cop .eql r80.2 0))]]))
 else
 if (cop .eql r80.2 3)=true then
 some (r80.1,r78,(E0++[[I 5,I 0,I 0,I x5,I 0,I x8,I 0,I x10,I x11,I x12,I r80.2,AV.val (.bool false),I 0,I 0,I 0,I 0,I 0,I 0,I 0,I 0,I 0,I 0,I 0,I 0,I 0,I 0,I 0,I 0,I 0,I 0,I 0,I 0,AV.slice false 3 E0,I 0,I 0,I 0,I 0,I 0,I 0,AV.val (.bool false),AV.slice false 3 E0,AV.slice false 11 E0,AV.slice false 1 E0,AV.slice false 2 E0,I 0,I 0,AV.slice false 1 E0,AV.slice false 1 E0,AV.slice false 15 E0,AV.slice false 28 E0,AV.slice false 4 E0,AV.slice false 2 E0,AV.slice false 13 E0,AV.slice false 3 E0,I 0,I 0,AV.slice false 1 E0,AV.slice false 1 E0,AV.slice false 15 E0,AV.slice false 28 E0,AV.slice false 4 E0,AV.slice false 2 E0,AV.slice false 13 E0,AV.slice false 3 E0,AV.val (.bool false),I 0,AV.slice false 1 E0,AV.slice false 1 E0,AV.slice false 15 E0,AV.slice false 28 E0,AV.slice false 4 E0,AV.slice false 2 E0,AV.slice false 13 E0,AV.slice false 3 E0]]),(E0++[[AV.val (.int .i64 x10),AV.val (.int .i64 x11),AV.val (.int .i64 x12),AV.val (.bool (cop .eql r80.2 0))]]))
 else
 some (r80.1,r78,(E0++[[I 5,I 0,I 0,I x5,I 0,I x8,I 0,I x10,I x11,I x12,I r80.2,AV.val (.bool false),I 0,I 0,I 0,I 0,I 0,I 0,I 0,I 0,I 0,I 0,I 0,I 0,I 0,I 0,I 0,I 0,I 0,I 0,I 0,I 0,AV.slice false 3 E0,I 0,I 0,I 0,I 0,I 0,I 0,AV.val (.bool false),AV.slice false 3 E0,AV.slice false 11 E0,AV.slice false 1 E0,AV.slice false 2 E0,I 0,I 0,AV.slice false 1 E0,AV.slice false 1 E0,AV.slice false 15 E0,AV.slice false 28 E0,AV.slice false 4 E0,AV.slice false 2 E0,AV.slice false 13 E0,AV.slice false 3 E0,I 0,I 0,AV.slice false 1 E0,AV.slice false 1 E0,AV.slice false 15 E0,AV.slice false 28 E0,AV.slice false 4 E0,AV.slice false 2 E0,AV.slice false 13 E0,AV.slice false 3 E0,AV.val (.bool false),I 0,AV.slice false 1 E0,AV.slice false 1 E0,AV.slice false 15 E0,AV.slice false 28 E0,AV.slice false 4 E0,AV.slice false 2 E0,AV.slice false 13 E0,AV.slice false 3 E0]]),E0)
 else
 if (cop .eql x3 6)=true then
 (g42 r78 x8).bind fun (r80:LL)=>
 (g43 r77 x43 x10 x11 x12).bind fun (r81:LL)=>
 some (r81,r80,(E0++[[I 7,I 0,I 0,I x5,I 0,I x8,I 0,I x10,I x11,I x12,I 0,AV.val (.bool false),I 0,I 0,I 0,I 0,I 0,I 0,I 0,I 0,I 0,I 0,I 0,I 0,I 0,I 0,I 0,I 0,I 0,I 0,I 0,I 0,AV.slice false 3 E0,I 0,I 0,I 0,I 0,I 0,I 0,AV.val (.bool false),AV.slice false 3 E0,AV.slice false 11 E0,AV.slice false 1 E0,AV.slice false 2 E0,I 0,I 0,AV.slice false 1 E0,AV.slice false 1 E0,AV.slice false 15 E0,AV.slice false 28 E0,AV.slice false 4 E0,AV.slice false 2 E0,AV.slice false 13 E0,AV.slice false 3 E0,I 0,I 0,AV.slice false 1 E0,AV.slice false 1 E0,AV.slice false 15 E0,AV.slice false 28 E0,AV.slice false 4 E0,AV.slice false 2 E0,AV.slice false 13 E0,AV.slice false 3 E0,AV.val (.bool false),I 0,AV.slice false 1 E0,AV.slice false 1 E0,AV.slice false 15 E0,AV.slice false 28 E0,AV.slice false 4 E0,AV.slice false 2 E0,AV.slice false 13 E0,AV.slice false 3 E0]]),E0)
 else
 if (cop .eql x3 8)=true then
 (g44 r78 x8 x10 x11 x12).bind fun (r80:LL)=>
 some (r77,r80,(E0++[[I 9,I 0,I 0,I x5,I 0,I x8,I 0,I x10,I x11,I x12,I 0,AV.val (.bool false),I 0,I 0,I 0,I 0,I 0,I 0,I 0,I 0,I 0,I 0,I 0,I 0,I 0,I 0,I 0,I 0,I 0,I 0,I 0,I 0,AV.slice false 3 E0,I 0,I 0,I 0,I 0,I 0,I 0,AV.val (.bool false),AV.slice false 3 E0,AV.slice false 11 E0,AV.slice false 1 E0,AV.slice false 2 E0,I 0,I 0,AV.slice false 1 E0,AV.slice false 1 E0,AV.slice false 15 E0,AV.slice false 28 E0,AV.slice false 4 E0,AV.slice false 2 E0,AV.slice false 13 E0,AV.slice false 3 E0,I 0,I 0,AV.slice false 1 E0,AV.slice false 1 E0,AV.slice false 15 E0,AV.slice false 28 E0,AV.slice false 4 E0,AV.slice false 2 E0,AV.slice false 13 E0,AV.slice false 3 E0,AV.val (.bool false),I 0,AV.slice false 1 E0,AV.slice false 1 E0,AV.slice false 15 E0,AV.slice false 28 E0,AV.slice false 4 E0,AV.slice false 2 E0,AV.slice false 13 E0,AV.slice false 3 E0]]),E0)
 else
 if (cop .eql x3 10)=true then
 (g45 r77 x10 x11 x12).bind fun (r80:LL×LL)=>
 some (r80.1,r78,(E0++[[I 11,I 0,I 0,I x5,I 0,I x8,I 0,I x10,I x11,I x12,I 0,AV.val (.bool false),I 0,I 0,I 0,I 0,I 0,I 0,I 0,I 0,I 0,I 0,I 0,I 0,I 0,I 0,I 0,I 0,I 0,I 0,I 0,I 0,AV.slice false 3 E0,I 0,I 0,I 0,I 0,I 0,I 0,AV.val (.bool false),AV.slice false 3 E0,AV.slice false 11 E0,AV.slice false 1 E0,AV.slice false 2 E0,I 0,I 0,AV.slice false 1 E0,AV.slice false 1 E0,AV.slice false 15 E0,AV.slice false 28 E0,AV.slice false 4 E0,AV.slice false 2 E0,AV.slice false 13 E0,AV.slice false 3 E0,I 0,I 0,AV.slice false 1 E0,AV.slice false 1 E0,AV.slice false 15 E0,AV.slice false 28 E0,AV.slice false 4 E0,AV.slice false 2 E0,AV.slice false 13 E0,AV.slice false 3 E0,AV.val (.bool false),I 0,AV.slice false 1 E0,AV.slice false 1 E0,AV.slice false 15 E0,AV.slice false 28 E0,AV.slice false 4 E0,AV.slice false 2 E0,AV.slice false 13 E0,AV.slice false 3 E0]]),E0)
 else
 some (r77,r78,E0,E0)):=by kernel_rfl
noncomputable def F37:Fn:=⟨27,[4],[(4,[(0,.c (.slice 74)),(1,.c (.slice 74)),(5,.c (.int .i64))])],[],0,[],[],Tryz.f37,[.c (.slice 74),.c (.slice 74)],[.c (.bool)],[(62,F62.S)]⟩
noncomputable def g37 (x0 x1:LL):Option (Bool):=F37.S.g [.l x0,.l x1]
noncomputable def ZkQ (k:Nat) (x0 x1:LL) (x2:Int):Option (Bool):=F37.lp [1,0] 0 r0 k [.l x0,.l x1,.i x2]
theorem Zj6 (k:Nat) (x0 x1:LL) (x2:Int):ZkQ (k+1) x0 x1 x2 =
 (if (cop .lss x2 (List.length x0:Int))=true then
 Zi x0 x2 hs0 fun (r3:Qt2)=>
 Zi x1 x2 hs0 fun (r77:Qt2)=>
 (g62 r3.1 r3.2.1 r3.2.2.1 r3.2.2.2.1 r3.2.2.2.2.1 r3.2.2.2.2.2.1 r3.2.2.2.2.2.2.1 r3.2.2.2.2.2.2.2.1 r3.2.2.2.2.2.2.2.2.1 r3.2.2.2.2.2.2.2.2.2.1 r3.2.2.2.2.2.2.2.2.2.2.1 r3.2.2.2.2.2.2.2.2.2.2.2.1 (d4 (d8 r3)).1 (d4 (d8 r3)).2.1 (d2 (d4 (d8 r3))).1 (d2 (d4 (d8 r3))).2.1 (d16 r3).1 (d16 r3).2.1 (d2 (d16 r3)).1 (d2 (d16 r3)).2.1 (d4 (d16 r3)).1 (d4 (d16 r3)).2.1 (d2 (d4 (d16 r3))).1 (d2 (d4 (d16 r3))).2.1 (d8 (d16 r3)).1 (d8 (d16 r3)).2.1 (d2 (d8 (d16 r3))).1 (d2 (d8 (d16 r3))).2.1 (d4 (d8 (d16 r3))).1 (d4 (d8 (d16 r3))).2.1 (d2 (d4 (d8 (d16 r3)))).1 (d2 (d4 (d8 (d16 r3)))).2.1 (d16 (d16 r3)).1 (d16 (d16 r3)).2.1 (d2 (d16 (d16 r3))).1 (d2 (d16 (d16 r3))).2.1 (d4 (d16 (d16 r3))).1 (d4 (d16 (d16 r3))).2.1 (d2 (d4 (d16 (d16 r3)))).1 (d2 (d4 (d16 (d16 r3)))).2.1 (d8 (d16 (d16 r3))).1 (d8 (d16 (d16 r3))).2.1 (d2 (d8 (d16 (d16 r3)))).1 (d2 (d8 (d16 (d16 r3)))).2.1 (d4 (d8 (d16 (d16 r3)))).1 (d4 (d8 (d16 (d16 r3)))).2.1 (d2 (d4 (d8 (d16 (d16 r3))))).1 (d2 (d4 (d8 (d16 (d16 r3))))).2.1 (d16 (d16 (d16 r3))).1 (d16 (d16 (d16 r3))).2.1 (d2 (d16 (d16 (d16 r3)))).1 (d2 (d16 (d16 (d16 r3)))).2.1 (d4 (d16 (d16 (d16 r3)))).1 (d4 (d16 (d16 (d16 r3)))).2.1 (d2 (d4 (d16 (d16 (d16 r3))))).1 (d2 (d4 (d16 (d16 (d16 r3))))).2.1 (d8 (d16 (d16 (d16 r3)))).1 (d8 (d16 (d16 (d16 r3)))).2.1 (d2 (d8 (d16 (d16 (d16 r3))))).1 (d2 (d8 (d16 (d16 (d16 r3))))).2.1 (d4 (d8 (d16 (d16 (d16 r3))))).1 (d4 (d8 (d16 (d16 (d16 r3))))).2.1 (d2 (d4 (d8 (d16 (d16 (d16 r3)))))).1 (d2 (d4 (d8 (d16 (d16 (d16 r3)))))).2.1 (d16 (d16 (d16 (d16 r3)))).1 (d16 (d16 (d16 (d16 r3)))).2.1 (d2 (d16 (d16 (d16 (d16 r3))))).1 (d2 (d16 (d16 (d16 (d16 r3))))).2.1 (d4 (d16 (d16 (d16 (d16 r3))))).1 (d4 (d16 (d16 (d16 (d16 r3))))).2.1 (d2 (d4 (d16 (d16 (d16 (d16 r3)))))).1 (d2 (d4 (d16 (d16 (d16 (d16 r3)))))).2.1 (d8 (d16 (d16 (d16 (d16 r3))))).1 (d8 (d16 (d16 (d16 (d16 r3))))).2 r77.1 r77.2.1 r77.2.2.1 r77.2.2.2.1 r77.2.2.2.2.1 r77.2.2.2.2.2.1 r77.2.2.2.2.2.2.1 r77.2.2.2.2.2.2.2.1 r77.2.2.2.2.2.2.2.2.1 r77.2.2.2.2.2.2.2.2.2.1 r77.2.2.2.2.2.2.2.2.2.2.1 r77.2.2.2.2.2.2.2.2.2.2.2.1 (d4 (d8 r77)).1 (d4 (d8 r77)).2.1 (d2 (d4 (d8 r77))).1 (d2 (d4 (d8 r77))).2.1 (d16 r77).1 (d16 r77).2.1 (d2 (d16 r77)).1 (d2 (d16 r77)).2.1 (d4 (d16 r77)).1 (d4 (d16 r77)).2.1 (d2 (d4 (d16 r77))).1 (d2 (d4 (d16 r77))).2.1 (d8 (d16 r77)).1 (d8 (d16 r77)).2.1 (d2 (d8 (d16 r77))).1 (d2 (d8 (d16 r77))).2.1 (d4 (d8 (d16 r77))).1 (d4 (d8 (d16 r77))).2.1 (d2 (d4 (d8 (d16 r77)))).1 (d2 (d4 (d8 (d16 r77)))).2.1 (d16 (d16 r77)).1 (d16 (d16 r77)).2.1 (d2 (d16 (d16 r77))).1 (d2 (d16 (d16 r77))).2.1 (d4 (d16 (d16 r77))).1 (d4 (d16 (d16 r77))).2.1 (d2 (d4 (d16 (d16 r77)))).1 (d2 (d4 (d16 (d16 r77)))).2.1 (d8 (d16 (d16 r77))).1 (d8 (d16 (d16 r77))).2.1 (d2 (d8 (d16 (d16 r77)))).1 (d2 (d8 (d16 (d16 r77)))).2.1 (d4 (d8 (d16 (d16 r77)))).1 (d4 (d8 (d16 (d16 r77)))).2.1 (d2 (d4 (d8 (d16 (d16 r77))))).1 (d2 (d4 (d8 (d16 (d16 r77))))).2.1 (d16 (d16 (d16 r77))).1 (d16 (d16 (d16 r77))).2.1 (d2 (d16 (d16 (d16 r77)))).1 (d2 (d16 (d16 (d16 r77)))).2.1 (d4 (d16 (d16 (d16 r77)))).1 (d4 (d16 (d16 (d16 r77)))).2.1 (d2 (d4 (d16 (d16 (d16 r77))))).1 (d2 (d4 (d16 (d16 (d16 r77))))).2.1 (d8 (d16 (d16 (d16 r77)))).1 (d8 (d16 (d16 (d16 r77)))).2.1 (d2 (d8 (d16 (d16 (d16 r77))))).1 (d2 (d8 (d16 (d16 (d16 r77))))).2.1 (d4 (d8 (d16 (d16 (d16 r77))))).1 (d4 (d8 (d16 (d16 (d16 r77))))).2.1 (d2 (d4 (d8 (d16 (d16 (d16 r77)))))).1 (d2 (d4 (d8 (d16 (d16 (d16 r77)))))).2.1 (d16 (d16 (d16 (d16 r77)))).1 (d16 (d16 (d16 (d16 r77)))).2.1 (d2 (d16 (d16 (d16 (d16 r77))))).1 (d2 (d16 (d16 (d16 (d16 r77))))).2.1 (d4 (d16 (d16 (d16 (d16 r77))))).1 (d4 (d16 (d16 (d16 (d16 r77))))).2.1 (d2 (d4 (d16 (d16 (d16 (d16 r77)))))).1 (d2 (d4 (d16 (d16 (d16 (d16 r77)))))).2.1 (d8 (d16 (d16 (d16 (d16 r77))))).1 (d8 (d16 (d16 (d16 (d16 r77))))).2).bind fun (r151:Bool)=>
 if (!r151)=true then
 some (false)
 else
 ZkQ k x0 x1 (iop .add .i64 x2 1)
 else
 some (true)):=by kernel_rfl
theorem Zty (x0 x1:LL):g37 x0 x1 =
 (if (cop .neq (List.length x0:Int) (List.length x1:Int))=true then
 some (false)
 else
 ZkQ Zx x0 x1 0):=by kernel_rfl
end Go.Proofs.YtljejgmcgddppaaGreat
