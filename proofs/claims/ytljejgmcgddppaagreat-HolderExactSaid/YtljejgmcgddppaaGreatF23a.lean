/- Functions of the program, as what they compute. -/
import Derived.Test.YtljejgmcgddppaaGreatG23
namespace Go.Proofs.YtljejgmcgddppaaGreat
open Go Go.AM
set_option linter.unusedVariables false
set_option maxRecDepth 100000
noncomputable def F65:Fn:=⟨44,[2,3],[],[],0,[],[],Tryz.f65,[.c (.int .i64)],[.c (.own false 129),.c (.bool)],[]⟩
theorem ZAg:F65.S.Ok Tryz.prog 65:=F65.ok Tryz.func65 (by kernel_rfl) trivial
noncomputable def g65 (x0:Int):Option (LL×Bool):=F65.S.g [.i x0]
theorem YL (x0:Int):g65 x0 =
 (if (cop .eql x0 1)=true then
 some (((E0++[[AV.val (.int .i64 0)]])++[[AV.val (.int .i64 1)]]),true)
 else
 if (cop .eql x0 2)=true then
 some ((((((E0++[[AV.val (.int .i64 0)]])++[[AV.val (.int .i64 2)]])++[[AV.val (.int .i64 3)]])++[[AV.val (.int .i64 4)]])++[[AV.val (.int .i64 5)]]),true)
 else
 if (cop .eql x0 3)=true then
 some (((E0++[[AV.val (.int .i64 0)]])++[[AV.val (.int .i64 2)]]),true)
 else
 if (cop .eql x0 7)=true then
 some (((E0++[[AV.val (.int .i64 0)]])++[[AV.val (.int .i64 2)]]),true)
 else
 if (cop .eql x0 8)=true then
 some (((E0++[[AV.val (.int .i64 0)]])++[[AV.val (.int .i64 2)]]),true)
 else
 if (cop .eql x0 9)=true then
 some (((E0++[[AV.val (.int .i64 0)]])++[[AV.val (.int .i64 2)]]),true)
 else
 if (cop .eql x0 10)=true then
 some (((E0++[[AV.val (.int .i64 0)]])++[[AV.val (.int .i64 2)]]),true)
 else
 if (cop .eql x0 11)=true then
 some (((E0++[[AV.val (.int .i64 0)]])++[[AV.val (.int .i64 2)]]),true)
 else
 if (cop .eql x0 4)=true then
 some (((((E0++[[AV.val (.int .i64 0)]])++[[AV.val (.int .i64 2)]])++[[AV.val (.int .i64 6)]])++[[AV.val (.int .i64 5)]]),true)
 else
 if (cop .eql x0 5)=true then
 some ((((E0++[[AV.val (.int .i64 0)]])++[[AV.val (.int .i64 2)]])++[[AV.val (.int .i64 3)]]),true)
 else
 if (cop .eql x0 6)=true then
 some ((((E0++[[AV.val (.int .i64 0)]])++[[AV.val (.int .i64 2)]])++[[AV.val (.int .i64 7)]]),true)
 else
 if (cop .eql x0 12)=true then
 some (((E0++[[AV.val (.int .i64 8)]])++[[AV.val (.int .i64 9)]]),true)
 else
 if (cop .eql x0 13)=true then
 some (((E0++[[AV.val (.int .i64 8)]])++[[AV.val (.int .i64 10)]]),true)
 else
 if (cop .eql x0 14)=true then
 some ((((((E0++[[AV.val (.int .i64 8)]])++[[AV.val (.int .i64 11)]])++[[AV.val (.int .i64 9)]])++[[AV.val (.int .i64 12)]])++[[AV.val (.int .i64 13)]]),true)
 else
 if (cop .eql x0 15)=true then
 some ((E0++[[AV.val (.int .i64 8)]]),true)
 else
 if (cop .eql x0 16)=true then
 some ((E0++[[AV.val (.int .i64 8)]]),true)
 else
 if (cop .eql x0 17)=true then
 some (((E0++[[AV.val (.int .i64 9)]])++[[AV.val (.int .i64 14)]]),true)
 else
 some (E0,false)):=by kernel_rfl
noncomputable def F66:Fn:=⟨9,[2],[],[],0,[],[],Tryz.f66,[.c (.int .i64)],[.c (.bool)],[]⟩
theorem Zwu:F66.S.Ok Tryz.prog 66:=F66.ok Tryz.func66 (by kernel_rfl) trivial
noncomputable def g66 (x0:Int):Option (Bool):=F66.S.g [.i x0]
theorem ZsW (x0:Int):g66 x0 =
 (if (cop .geq x0 0)=true then
 some ((cop .leq x0 1073741824))
 else
 some (false)):=by kernel_rfl
noncomputable def F67:Fn:=⟨9,[2],[],[],0,[],[],Tryz.f67,[.c (.int .i64)],[.c (.bool)],[]⟩
theorem Zq9:F67.S.Ok Tryz.prog 67:=F67.ok Tryz.func67 (by kernel_rfl) trivial
noncomputable def g67 (x0:Int):Option (Bool):=F67.S.g [.i x0]
theorem Ztk (x0:Int):g67 x0 =
 (if (cop .geq x0 0)=true then
 some ((cop .lss x0 32))
 else
 some (false)):=by kernel_rfl
noncomputable def Zqj:Fn:=⟨9,[2],[],[],0,[],[],Tryz.f110,[.c (.int .i64)],[.c (.bool)],[]⟩
theorem ZnQ:Zqj.S.Ok Tryz.prog 110:=Zqj.ok Tryz.func110 (by kernel_rfl) trivial
noncomputable def Zr4 (x0:Int):Option (Bool):=Zqj.S.g [.i x0]
theorem Zq7 (x0:Int):Zr4 x0 =
 (if (cop .geq x0 0)=true then
 some ((cop .lss x0 16))
 else
 some (false)):=by kernel_rfl
noncomputable def ZrI:Fn:=⟨31,[2],[],[],0,[],[],Tryz.f120,[.agg [.int .i64,.int .i64,.int .i64]],[.c (.bool)],[]⟩
theorem ZnF:ZrI.S.Ok Tryz.prog 120:=ZrI.ok Tryz.func120 (by kernel_rfl) trivial
noncomputable def Zrh (x0 x1 x2:Int):Option (Bool):=ZrI.S.g [.i x0,.i x1,.i x2]
theorem ZrN (x0 x1 x2:Int):Zrh x0 x1 x2 =
 (if (cop .geq x0 0)=true then
 if (cop .lss x0 32)=true then
 if (cop .geq x1 1)=true then
 if (cop .leq x1 1073741824)=true then
 if (cop .geq x2 0)=true then
 some ((cop .lss x2 8))
 else
 some (false)
 else
 some (false)
 else
 some (false)
 else
 some (false)
 else
 some (false)):=by kernel_rfl
noncomputable def Zqm:Fn:=⟨10,[2],[],[],0,[],[],Tryz.f112,[.agg [.int .i64,.int .i64,.int .i64]],[.c (.bool)],[(120,ZrI.S)]⟩
theorem ZoN:Zqm.S.Ok Tryz.prog 112:=Zqm.ok Tryz.func112 (by kernel_rfl) ⟨ZnF,trivial⟩
noncomputable def Zsc (x0 x1 x2:Int):Option (Bool):=Zqm.S.g [.i x0,.i x1,.i x2]
theorem ZrR (x0 x1 x2:Int):Zsc x0 x1 x2 =
 ((Zrh x0 x1 x2).bind fun (r3:Bool)=>
 if r3=true then
 some ((cop .eql x2 0))
 else
 some (false)):=by kernel_rfl
noncomputable def ZtR:Fn:=⟨26,[4],[(4,[(0,.c (.slice 3)),(1,.c (.slice 3)),(12,.c (.int .i64)),(13,.c (.int .i64))])],[],0,[],[],Tryz.f163,[.c (.slice 3),.c (.slice 3)],[.c (.bool)],[]⟩
theorem Zxs:ZtR.S.Ok Tryz.prog 163:=ZtR.ok Tryz.func163 (by kernel_rfl) trivial
noncomputable def Zye (x0 x1:LL):Option (Bool):=ZtR.S.g [.l x0,.l x1]
noncomputable def ZcV (k:Nat) (x0 x1:LL) (x2 x3:Int):Option (Bool):=ZtR.lp [1,0] 0 r0 k [.l x0,.l x1,.i x2,.i x3]
theorem ZgB (k:Nat) (x0 x1:LL) (x2 x3:Int):ZcV (k+1) x0 x1 x2 x3 =
 (if (cop .lss x3 x2)=true then
 Zl x0 x3 [.int .i64,.int .i64,.int .i64] fun (r4:Int×Int×Int)=>
 Zl x1 x3 [.int .i64,.int .i64,.int .i64] fun (r7:Int×Int×Int)=>
 if (!((cop .eql r4.1 r7.1)&&((cop .eql r4.2.1 r7.2.1)&&((cop .eql r4.2.2 r7.2.2)&&true))))=true then
 some (false)
 else
 ZcV k x0 x1 x2 (iop .add .i64 x3 1)
 else
 some (true)):=by kernel_rfl
theorem ZrZ (x0 x1:LL):Zye x0 x1 =
 (if (cop .neq (List.length x0:Int) (List.length x1:Int))=true then
 some (false)
 else
 ZcV Zx x0 x1 (List.length x0:Int) 0):=by kernel_rfl
noncomputable def Zsi:Fn:=⟨24,[4],[],[],0,[],[],Tryz.f148,[.agg hs8,.agg hs8],[.c (.bool)],[(163,ZtR.S)]⟩
theorem ZrA:Zsi.S.Ok Tryz.prog 148:=Zsi.ok Tryz.func148 (by kernel_rfl) ⟨Zxs,trivial⟩
noncomputable def ZrO (x0 x1 x2:Int) (x3:LL) (x4 x5 x6 x7 x8 x9:Int) (x10:Bool) (x11 x12 x13:Int) (x14:LL) (x15 x16 x17 x18 x19 x20:Int) (x21:Bool):Option (Bool):=Zsi.S.g [.i x0,.i x1,.i x2,.l x3,.i x4,.i x5,.i x6,.i x7,.i x8,.i x9,.b x10,.i x11,.i x12,.i x13,.l x14,.i x15,.i x16,.i x17,.i x18,.i x19,.i x20,.b x21]
theorem Zr0 (x0 x1 x2:Int) (x3:LL) (x4 x5 x6 x7 x8 x9:Int) (x10:Bool) (x11 x12 x13:Int) (x14:LL) (x15 x16 x17 x18 x19 x20:Int) (x21:Bool):ZrO x0 x1 x2 x3 x4 x5 x6 x7 x8 x9 x10 x11 x12 x13 x14 x15 x16 x17 x18 x19 x20 x21 =
 (if ((cop .eql x0 x11)&&((cop .eql x1 x12)&&((cop .eql x2 x13)&&true)))=true then
 if ((cop .eql x4 x15)&&((cop .eql x5 x16)&&((cop .eql x6 x17)&&((cop .eql x7 x18)&&((cop .eql x8 x19)&&((cop .eql x9 x20)&&((x10 == x21)&&true)))))))=true then
 (Zye x3 x14).bind fun (r22:Bool)=>
 some (r22)
 else
 some (false)
 else
 some (false)):=by kernel_rfl
noncomputable def Zv8:Fn:=⟨38,[4],[],[],0,[],[],Tryz.f164,[.c (.int .i64),.c (.int .i64)],[.c (.bool)],[]⟩
theorem ZyF:Zv8.S.Ok Tryz.prog 164:=Zv8.ok Tryz.func164 (by kernel_rfl) trivial
noncomputable def ZwF (x0 x1:Int):Option (Bool):=Zv8.S.g [.i x0,.i x1]
theorem Zrs (x0 x1:Int):ZwF x0 x1 =
 (if (cop .eql x0 1)=true then
 if (cop .geq x1 6)=true then
 some ((cop .leq x1 40))
 else
 some (false)
 else
 if (cop .eql x0 2)=true then
 if (cop .geq x1 12)=true then
 some ((cop .leq x1 40))
 else
 some (false)
 else
 if (cop .eql x0 3)=true then
 some ((cop .eql x1 12))
 else
 if (cop .eql x0 4)=true then
 some ((cop .eql x1 6))
 else
 if (cop .eql x0 5)=true then
 some ((cop .eql x1 10))
 else
 if (cop .eql x0 6)=true then
 some ((cop .eql x1 16))
 else
 some (false)):=by kernel_rfl
noncomputable def Zvz:Fn:=⟨8,[2],[],[],0,[],[],Tryz.f166,[.agg hs13],[.agg [.int .i64,.int .i64]],[]⟩
theorem Zyq:Zvz.S.Ok Tryz.prog 166:=Zvz.ok Tryz.func166 (by kernel_rfl) trivial
noncomputable def ZxT (x0 x1 x2 x3 x4 x5:Int) (x6:Bool):Option (Int×Int):=Zvz.S.g [.i x0,.i x1,.i x2,.i x3,.i x4,.i x5,.b x6]
theorem ZrX (x0 x1 x2 x3 x4 x5:Int) (x6:Bool):ZxT x0 x1 x2 x3 x4 x5 x6 =
 (some (x1,x2)):=by kernel_rfl
noncomputable def ZvP:Fn:=⟨32,[2],[],[],0,[],[],Tryz.f165,[.agg [.int .i64,.int .i64]],[.c (.bool)],[]⟩
theorem ZxR:ZvP.S.Ok Tryz.prog 165:=ZvP.ok Tryz.func165 (by kernel_rfl) trivial
noncomputable def Zyy (x0 x1:Int):Option (Bool):=ZvP.S.g [.i x0,.i x1]
theorem Zre (x0 x1:Int):Zyy x0 x1 =
 (if (cop .lss x1 6)=true then
 some (false)
 else
 if (cop .gtr x1 40)=true then
 some (false)
 else
 if (cop .lss x0 0)=true then
 some (false)
 else
 Zw ((0:Int)≤x1)<|
 Zw (((iop .shl .i64 1 x1):Int)≠0)<|
 if (cop .eql (iop .rem .i64 x0 (iop .shl .i64 1 x1)) 0)=true then
 some ((cop .leq x0 (iop .sub .i64 1099511627776 (iop .shl .i64 1 x1))))
 else
 some (false)):=by kernel_rfl
noncomputable def Zvn:Fn:=⟨22,[4],[],[],0,[],[],Tryz.f167,[.c (.int .i64),.c (.int .i64)],[.c (.bool)],[]⟩
theorem Zwl:Zvn.S.Ok Tryz.prog 167:=Zvn.ok Tryz.func167 (by kernel_rfl) trivial
noncomputable def ZxZ (x0 x1:Int):Option (Bool):=Zvn.S.g [.i x0,.i x1]
theorem ZqA (x0 x1:Int):ZxZ x0 x1 =
 (if (cop .eql x0 32)=true then
 if (cop .geq x1 0)=true then
 some ((cop .leq x1 1))
 else
 some (false)
 else
 if (cop .eql x0 39)=true then
 if (cop .geq x1 0)=true then
 some ((cop .leq x1 2))
 else
 some (false)
 else
 some (false)):=by kernel_rfl
noncomputable def ZvO:Fn:=⟨55,[2],[],[],0,[],[],Tryz.f150,[.agg hs13],[.c (.bool)],[(164,Zv8.S),(166,Zvz.S),(165,ZvP.S),(167,Zvn.S)]⟩
theorem Zx3:ZvO.S.Ok Tryz.prog 150:=ZvO.ok Tryz.func150 (by kernel_rfl) ⟨ZyF,⟨Zyq,⟨ZxR,⟨Zwl,trivial⟩⟩⟩⟩
noncomputable def Zws (x0 x1 x2 x3 x4 x5:Int) (x6:Bool):Option (Bool):=ZvO.S.g [.i x0,.i x1,.i x2,.i x3,.i x4,.i x5,.b x6]
theorem ZqK (x0 x1 x2 x3 x4 x5:Int) (x6:Bool):Zws x0 x1 x2 x3 x4 x5 x6 =
 ((ZwF x0 x2).bind fun (r7:Bool)=>
 if (!r7)=true then
 some (false)
 else
 (ZxT x0 x1 x2 x3 x4 x5 x6).bind fun (r8:Int×Int)=>
 (Zyy r8.1 r8.2).bind fun (r10:Bool)=>
 if (!r10)=true then
 some (false)
 else
 if (cop .lss x3 0)=true then
 some (false)
 else
 if (cop .gtr x3 7)=true then
 some (false)
 else
 if (cop .eql x0 3)=true then
 (ZxZ x4 x5).bind fun (r11:Bool)=>
 if (!r11)=true then
 some (false)
 else
 if (!x6)=true then
 some (true)
 else
 if (cop .eql x0 1)=true then
 some (true)
 else
 some ((cop .eql x0 2))
 else
 if (cop .neq x4 0)=true then
 some (false)
 else
 if (cop .neq x5 0)=true then
 some (false)
 else
 if (!x6)=true then
 some (true)
 else
 if (cop .eql x0 1)=true then
 some (true)
 else
 some ((cop .eql x0 2))):=by kernel_rfl
noncomputable def Zs6:Fn:=⟨19,[4],[(2,[(0,.c (.slice 3)),(3,.box [.int .i64,.int .i64,.int .i64]),(7,.c (.int .i64)),(8,.c (.int .i64))])],[],0,[],[],Tryz.f136,[.c (.slice 3),.agg [.int .i64,.int .i64,.int .i64]],[.c (.int .i64)],[]⟩
theorem ZwT:Zs6.S.Ok Tryz.prog 136:=Zs6.ok Tryz.func136 (by kernel_rfl) trivial
noncomputable def Zzk (x0:LL) (x1 x2 x3:Int):Option (Int):=Zs6.S.g [.l x0,.i x1,.i x2,.i x3]
noncomputable def Zf6 (k:Nat) (x0:LL) (x1 x2 x3 x4 x5:Int):Option (Int):=Zs6.lp [0] 0 r0 k [.l x0,.i x1,.i x2,.i x3,.i x4,.i x5]
theorem Zhw (k:Nat) (x0:LL) (x1 x2 x3 x4 x5:Int):Zf6 (k+1) x0 x1 x2 x3 x4 x5 =
 (if (cop .lss x5 x4)=true then
 Zl x0 x5 [.int .i64,.int .i64,.int .i64] fun (r6:Int×Int×Int)=>
 if ((cop .eql x1 r6.1)&&((cop .eql x2 r6.2.1)&&((cop .eql x3 r6.2.2)&&true)))=true then
 some (x5)
 else
 Zf6 k x0 x1 x2 x3 x4 (iop .add .i64 x5 1)
 else
 some ((-1))):=by kernel_rfl
theorem ZrT (x0:LL) (x1 x2 x3:Int):Zzk x0 x1 x2 x3 =
 (Zf6 Zx x0 x1 x2 x3 (List.length x0:Int) 0):=by kernel_rfl
noncomputable def F76:Fn:=⟨9,[4],[],[],0,[],[],Tryz.f76,[.c (.slice 3),.agg [.int .i64,.int .i64,.int .i64]],[.c (.bool)],[(136,Zs6.S)]⟩
theorem Zy7:F76.S.Ok Tryz.prog 76:=F76.ok Tryz.func76 (by kernel_rfl) ⟨ZwT,trivial⟩
noncomputable def g76 (x0:LL) (x1 x2 x3:Int):Option (Bool):=F76.S.g [.l x0,.i x1,.i x2,.i x3]
theorem ZsD (x0:LL) (x1 x2 x3:Int):g76 x0 x1 x2 x3 =
 ((Zzk x0 x1 x2 x3).bind fun (r4:Int)=>
 some ((cop .geq r4 0))):=by kernel_rfl
noncomputable def ZoV:Fn:=⟨47,[2],[(4,[(1,.box hs8),(22,.c (.slice 3)),(23,.c (.int .i64)),(24,.c (.int .i64))])],[],0,[],[],Tryz.f116,[.agg hs8],[.c (.bool)],[(120,ZrI.S),(150,ZvO.S),(76,F76.S)]⟩
theorem Zl4:ZoV.S.Ok Tryz.prog 116:=ZoV.ok Tryz.func116 (by kernel_rfl) ⟨ZnF,⟨Zx3,⟨Zy7,trivial⟩⟩⟩
noncomputable def Zpt (x0 x1 x2:Int) (x3:LL) (x4 x5 x6 x7 x8 x9:Int) (x10:Bool):Option (Bool):=ZoV.S.g [.i x0,.i x1,.i x2,.l x3,.i x4,.i x5,.i x6,.i x7,.i x8,.i x9,.b x10]
noncomputable def Zjm (k:Nat) (x0 x1 x2:Int) (x3:LL) (x4 x5 x6 x7 x8 x9:Int) (x10:Bool) (x11:LL) (x12 x13:Int):Option (Bool):=ZoV.lp [0,1,0,1,1,0] 0 r0 k [.i x0,.i x1,.i x2,.l x3,.i x4,.i x5,.i x6,.i x7,.i x8,.i x9,.b x10,.l x11,.i x12,.i x13]
theorem Zhx (k:Nat) (x0 x1 x2:Int) (x3:LL) (x4 x5 x6 x7 x8 x9:Int) (x10:Bool) (x11:LL) (x12 x13:Int):Zjm (k+1) x0 x1 x2 x3 x4 x5 x6 x7 x8 x9 x10 x11 x12 x13 =
 (if (cop .lss x13 x12)=true then
 Zl x11 x13 [.int .i64,.int .i64,.int .i64] fun (r14:Int×Int×Int)=>
 (Zrh r14.1 r14.2.1 r14.2.2).bind fun (r17:Bool)=>
 if (!r17)=true then
 some (false)
 else
 if ((cop .eql r14.1 x0)&&((cop .eql r14.2.1 x1)&&((cop .eql r14.2.2 x2)&&true)))=true then
 some (false)
 else
 Zw ((0:Int)≤x13)<|
 Zw ((x13:Int)≤(List.length x3:Int))<|
 (g76 (List.take (Int.toNat x13) x3) r14.1 r14.2.1 r14.2.2).bind fun (r18:Bool)=>
 if r18=true then
 some (false)
 else
 Zjm k x0 x1 x2 x3 x4 x5 x6 x7 x8 x9 x10 x11 x12 (iop .add .i64 x13 1)
 else
 some (true)):=by kernel_rfl
theorem ZqQ (x0 x1 x2:Int) (x3:LL) (x4 x5 x6 x7 x8 x9:Int) (x10:Bool):Zpt x0 x1 x2 x3 x4 x5 x6 x7 x8 x9 x10 =
 ((Zrh x0 x1 x2).bind fun (r11:Bool)=>
 if (!r11)=true then
 some (false)
 else
 (Zws x4 x5 x6 x7 x8 x9 x10).bind fun (r12:Bool)=>
 if (!r12)=true then
 some (false)
 else
 if (cop .gtr (List.length x3:Int) 8)=true then
 some (false)
 else
 Zjm Zx x0 x1 x2 x3 x4 x5 x6 x7 x8 x9 x10 x3 (List.length x3:Int) 0):=by kernel_rfl
noncomputable def Zuk:Fn:=⟨46,[2],[],[],0,[],[],Tryz.f111,[.agg hs3],[.c (.bool)],[(112,Zqm.S),(110,Zqj.S),(148,Zsi.S),(116,ZoV.S)]⟩
theorem Zt7:Zuk.S.Ok Tryz.prog 111:=Zuk.ok Tryz.func111 (by kernel_rfl) ⟨ZoN,⟨ZnQ,⟨ZrA,⟨Zl4,trivial⟩⟩⟩⟩
noncomputable def ZvA (x0 x1 x2 x3 x4 x5 x6 x7 x8 x9 x10 x11 x12 x13 x14 x15 x16 x17 x18 x19:Int) (x20:LL) (x21 x22 x23 x24 x25 x26:Int) (x27:Bool):Option (Bool):=Zuk.S.g [.i x0,.i x1,.i x2,.i x3,.i x4,.i x5,.i x6,.i x7,.i x8,.i x9,.i x10,.i x11,.i x12,.i x13,.i x14,.i x15,.i x16,.i x17,.i x18,.i x19,.l x20,.i x21,.i x22,.i x23,.i x24,.i x25,.i x26,.b x27]
theorem Zqn (x0 x1 x2 x3 x4 x5 x6 x7 x8 x9 x10 x11 x12 x13 x14 x15 x16 x17 x18 x19:Int) (x20:LL) (x21 x22 x23 x24 x25 x26:Int) (x27:Bool):ZvA x0 x1 x2 x3 x4 x5 x6 x7 x8 x9 x10 x11 x12 x13 x14 x15 x16 x17 x18 x19 x20 x21 x22 x23 x24 x25 x26 x27 =
 ((Zsc x0 x1 x2).bind fun (r28:Bool)=>
 if (!r28)=true then
 some (false)
 else
 if (cop .lss x3 1)=true then
 some (false)
 else
 if (cop .gtr x3 6)=true then
 some (false)
 else
 (Zr4 x15).bind fun (r29:Bool)=>
 if (!r29)=true then
 some (false)
 else
 if (cop .neq x16 32)=true then
 if (cop .neq x16 39)=true then
 some (false)
 else
 if (cop .eql x3 1)=true then
 (ZrO x17 x18 x19 x20 x21 x22 x23 x24 x25 x26 x27 0 0 0 E0 0 0 0 0 0 0 false).bind fun (r30:Bool)=>
 some (r30)
 else
 (Zpt x17 x18 x19 x20 x21 x22 x23 x24 x25 x26 x27).bind fun (r30:Bool)=>
 some (r30)
 else
 if (cop .eql x3 1)=true then
 (ZrO x17 x18 x19 x20 x21 x22 x23 x24 x25 x26 x27 0 0 0 E0 0 0 0 0 0 0 false).bind fun (r30:Bool)=>
 some (r30)
 else
 (Zpt x17 x18 x19 x20 x21 x22 x23 x24 x25 x26 x27).bind fun (r30:Bool)=>
 some (r30)):=by kernel_rfl
noncomputable def Ztu:Fn:=⟨9,[2],[],[],0,[],[],Tryz.f113,[.c (.int .i64)],[.c (.bool)],[]⟩
theorem Zve:Ztu.S.Ok Tryz.prog 113:=Ztu.ok Tryz.func113 (by kernel_rfl) trivial
noncomputable def Zwb (x0:Int):Option (Bool):=Ztu.S.g [.i x0]
theorem Zrx (x0:Int):Zwb x0 =
 (if (cop .geq x0 0)=true then
 some ((cop .leq x0 99))
 else
 some (false)):=by kernel_rfl
noncomputable def Zsq:Fn:=⟨9,[2],[],[],0,[],[],Tryz.f117,[.c (.int .i64)],[.c (.bool)],[]⟩
theorem Zt9:Zsq.S.Ok Tryz.prog 117:=Zsq.ok Tryz.func117 (by kernel_rfl) trivial
noncomputable def ZvK (x0:Int):Option (Bool):=Zsq.S.g [.i x0]
theorem ZqR (x0:Int):ZvK x0 =
 (if (cop .geq x0 0)=true then
 some ((cop .lss x0 64))
 else
 some (false)):=by kernel_rfl
noncomputable def Zua:Fn:=⟨19,[4],[(2,[(0,.c (.slice 1)),(1,.c (.int .i64)),(7,.c (.int .i64)),(8,.c (.int .i64))])],[],0,[],[],Tryz.f168,[.c (.slice 1),.c (.int .i64)],[.c (.int .i64)],[]⟩
theorem ZyI:Zua.S.Ok Tryz.prog 168:=Zua.ok Tryz.func168 (by kernel_rfl) trivial
noncomputable def Zym (x0:LL) (x1:Int):Option (Int):=Zua.S.g [.l x0,.i x1]
noncomputable def Zej (k:Nat) (x0:LL) (x1 x2 x3:Int):Option (Int):=Zua.lp [0] 0 r0 k [.l x0,.i x1,.i x2,.i x3]
theorem Zgc (k:Nat) (x0:LL) (x1 x2 x3:Int):Zej (k+1) x0 x1 x2 x3 =
 (if (cop .lss x3 x2)=true then
 Zl x0 x3 [.int .i64] fun (r4:Int)=>
 if (cop .eql x1 r4)=true then
 some (x3)
 else
 Zej k x0 x1 x2 (iop .add .i64 x3 1)
 else
 some ((-1))):=by kernel_rfl
theorem ZqL (x0:LL) (x1:Int):Zym x0 x1 =
 (Zej Zx x0 x1 (List.length x0:Int) 0):=by kernel_rfl
noncomputable def Zvm:Fn:=⟨9,[4],[],[],0,[],[],Tryz.f153,[.c (.slice 1),.c (.int .i64)],[.c (.bool)],[(168,Zua.S)]⟩
theorem Zyl:Zvm.S.Ok Tryz.prog 153:=Zvm.ok Tryz.func153 (by kernel_rfl) ⟨ZyI,trivial⟩
noncomputable def Zwo (x0:LL) (x1:Int):Option (Bool):=Zvm.S.g [.l x0,.i x1]
theorem Zqi (x0:LL) (x1:Int):Zwo x0 x1 =
 ((Zym x0 x1).bind fun (r2:Int)=>
 some ((cop .geq r2 0))):=by kernel_rfl
noncomputable def ZvE:Fn:=⟨6,[2],[],[],0,[],[],Tryz.f154,[.c (.int .i64)],[.c (.bool)],[(67,F67.S)]⟩
theorem ZyK:ZvE.S.Ok Tryz.prog 154:=ZvE.ok Tryz.func154 (by kernel_rfl) ⟨Zq9,trivial⟩
noncomputable def ZyM (x0:Int):Option (Bool):=ZvE.S.g [.i x0]
theorem Zqg (x0:Int):ZyM x0 =
 ((g67 x0).bind fun (r1:Bool)=>
 some ((!r1))):=by kernel_rfl
noncomputable def Za9:Fn:=⟨19,[4],[(2,[(0,.c (.slice 1)),(1,.clo 154 []),(7,.c (.int .i64)),(8,.c (.int .i64))])],[],0,[],[],Tryz.f152,[.c (.slice 1),.clo 154 []],[.c (.int .i64)],[(154,ZvE.S)]⟩
theorem Zne:Za9.S.Ok Tryz.prog 152:=Za9.ok Tryz.func152 (by kernel_rfl) ⟨ZyK,trivial⟩
noncomputable def ZfQ (x0:LL):Option (Int):=Za9.S.g [.l x0]
noncomputable def Kz (k:Nat) (x0:LL) (x1 x2:Int):Option (Int):=Za9.lp [0] 0 r0 k [.l x0,.i x1,.i x2]
theorem ZaL (k:Nat) (x0:LL) (x1 x2:Int):Kz (k+1) x0 x1 x2 =
 (if (cop .lss x2 x1)=true then
 Zl x0 x2 [.int .i64] fun (r3:Int)=>
 (ZyM r3).bind fun (r4:Bool)=>
 if r4=true then
 some (x2)
 else
 Kz k x0 x1 (iop .add .i64 x2 1)
 else
 some ((-1))):=by kernel_rfl
theorem Zir (x0:LL):ZfQ x0 =
 (Kz Zx x0 (List.length x0:Int) 0):=by kernel_rfl
noncomputable def Zci:Fn:=⟨9,[4],[],[],0,[],[],Tryz.f121,[.c (.slice 1),.clo 154 []],[.c (.bool)],[(152,Za9.S)]⟩
theorem Zns:Zci.S.Ok Tryz.prog 121:=Zci.ok Tryz.func121 (by kernel_rfl) ⟨Zne,trivial⟩
noncomputable def Zfn (x0:LL):Option (Bool):=Zci.S.g [.l x0]
theorem ZhK (x0:LL):Zfn x0 =
 ((ZfQ x0).bind fun (r1:Int)=>
 some ((cop .geq r1 0))):=by kernel_rfl
noncomputable def Zr1:Fn:=⟨45,[2],[(4,[(1,.box [.int .i64,.slice 1,.slice 1]),(22,.c (.slice 1)),(23,.c (.int .i64)),(24,.c (.int .i64))])],[],0,[],[],Tryz.f126,[.agg [.int .i64,.slice 1,.slice 1]],[.c (.bool)],[(66,F66.S),(67,F67.S),(153,Zvm.S),(121,Zci.S)]⟩
theorem Zto:Zr1.S.Ok Tryz.prog 126:=Zr1.ok Tryz.func126 (by kernel_rfl) ⟨Zwu,⟨Zq9,⟨Zyl,⟨Zns,trivial⟩⟩⟩⟩
noncomputable def Zt8 (x0:Int) (x1 x2:LL):Option (Bool):=Zr1.S.g [.i x0,.l x1,.l x2]
noncomputable def Zdz (k:Nat) (x0:Int) (x1 x2 x3:LL) (x4 x5:Int):Option (Bool):=Zr1.lp [0,1,1,1,0] 0 r0 k [.i x0,.l x1,.l x2,.l x3,.i x4,.i x5]
theorem Zg8 (k:Nat) (x0:Int) (x1 x2 x3:LL) (x4 x5:Int):Zdz (k+1) x0 x1 x2 x3 x4 x5 =
 (if (cop .lss x5 x4)=true then
 Zl x3 x5 [.int .i64] fun (r6:Int)=>
 (g67 r6).bind fun (r7:Bool)=>
 if (!r7)=true then
 some (false)
 else
 Zw ((0:Int)≤x5)<|
 Zw ((x5:Int)≤(List.length x1:Int))<|
 (Zwo (List.take (Int.toNat x5) x1) r6).bind fun (r8:Bool)=>
 if r8=true then
 some (false)
 else
 Zdz k x0 x1 x2 x3 x4 (iop .add .i64 x5 1)
 else
 (Zfn x2).bind fun (r6:Bool)=>
 some ((!r6))):=by kernel_rfl
theorem ZrW (x0:Int) (x1 x2:LL):Zt8 x0 x1 x2 =
 ((g66 x0).bind fun (r3:Bool)=>
 if (!r3)=true then
 some (false)
 else
 if (cop .gtr (List.length x1:Int) 32)=true then
 some (false)
 else
 if (cop .gtr (List.length x2:Int) 16)=true then
 some (false)
 else
 Zdz Zx x0 x1 x2 x1 (List.length x1:Int) 0):=by kernel_rfl
noncomputable def F72:Fn:=⟨8,[2],[],[],0,[],[],Tryz.f72,[.agg hs6],[.c (.bool)],[]⟩
theorem Zr7:F72.S.Ok Tryz.prog 72:=F72.ok Tryz.func72 (by kernel_rfl) trivial
noncomputable def g72 (x0 x1 x2:Int) (x3:LL) (x4 x5 x6 x7 x8 x9:Int) (x10:Bool) (x11 x12 x13 x14:Int):Option (Bool):=F72.S.g [.i x0,.i x1,.i x2,.l x3,.i x4,.i x5,.i x6,.i x7,.i x8,.i x9,.b x10,.i x11,.i x12,.i x13,.i x14]
theorem Zme (x0 x1 x2:Int) (x3:LL) (x4 x5 x6 x7 x8 x9:Int) (x10:Bool) (x11 x12 x13 x14:Int):g72 x0 x1 x2 x3 x4 x5 x6 x7 x8 x9 x10 x11 x12 x13 x14 =
 (some (((cop .eql x0 0)&&((cop .eql x1 0)&&((cop .eql x2 0)&&true))))):=by kernel_rfl
noncomputable def Zv5:Fn:=⟨43,[2],[],[],0,[],[],Tryz.f169,[.agg hs6],[.c (.bool)],[(72,F72.S),(148,Zsi.S),(116,ZoV.S),(120,ZrI.S)]⟩
theorem Zyb:Zv5.S.Ok Tryz.prog 169:=Zv5.ok Tryz.func169 (by kernel_rfl) ⟨Zr7,⟨ZrA,⟨Zl4,⟨ZnF,trivial⟩⟩⟩⟩
noncomputable def Zxp (x0 x1 x2:Int) (x3:LL) (x4 x5 x6 x7 x8 x9:Int) (x10:Bool) (x11 x12 x13 x14:Int):Option (Bool):=Zv5.S.g [.i x0,.i x1,.i x2,.l x3,.i x4,.i x5,.i x6,.i x7,.i x8,.i x9,.b x10,.i x11,.i x12,.i x13,.i x14]
theorem Zru (x0 x1 x2:Int) (x3:LL) (x4 x5 x6 x7 x8 x9:Int) (x10:Bool) (x11 x12 x13 x14:Int):Zxp x0 x1 x2 x3 x4 x5 x6 x7 x8 x9 x10 x11 x12 x13 x14 =
 (if (cop .lss x11 0)=true then
 some (false)
 else
 if (cop .gtr x11 1073741824)=true then
 some (false)
 else
 (g72 x0 x1 x2 x3 x4 x5 x6 x7 x8 x9 x10 x11 x12 x13 x14).bind fun (r15:Bool)=>
 if r15=true then
 (ZrO x0 x1 x2 x3 x4 x5 x6 x7 x8 x9 x10 0 0 0 E0 0 0 0 0 0 0 false).bind fun (r16:Bool)=>
 if r16=true then
 some (((cop .eql x12 0)&&((cop .eql x13 0)&&((cop .eql x14 0)&&true))))
 else
 some (false)
 else
 (Zpt x0 x1 x2 x3 x4 x5 x6 x7 x8 x9 x10).bind fun (r16:Bool)=>
 if r16=true then
 if ((cop .eql x12 0)&&((cop .eql x13 0)&&((cop .eql x14 0)&&true)))=true then
 some (true)
 else
 (Zrh x12 x13 x14).bind fun (r17:Bool)=>
 if r17=true then
 some ((cop .eql x14 0))
 else
 some (false)
 else
 some (false)):=by kernel_rfl
noncomputable def Zsm:Fn:=⟨27,[4,5],[(2,[(3,.box [.int .i64,.int .i64,.int .i64]),(8,.c (.slice 15)),(9,.c (.int .i64)),(10,.c (.int .i64))])],[],0,[],[],Tryz.f134,[.c (.slice 15),.agg [.int .i64,.int .i64,.int .i64]],[.c (.int .i64),.c (.bool)],[(72,F72.S)]⟩
theorem ZuD:Zsm.S.Ok Tryz.prog 134:=Zsm.ok Tryz.func134 (by kernel_rfl) ⟨Zr7,trivial⟩
noncomputable def Zwi (x0:LL) (x1 x2 x3:Int):Option (Int×Bool):=Zsm.S.g [.l x0,.i x1,.i x2,.i x3]
noncomputable def Zds (k:Nat) (x0 x1 x2:Int) (x3:LL) (x4 x5:Int):Option (Int×Bool):=Zsm.lp [0] 0 r0 k [.i x0,.i x1,.i x2,.l x3,.i x4,.i x5]
theorem Zgk (k:Nat) (x0 x1 x2:Int) (x3:LL) (x4 x5:Int):Zds (k+1) x0 x1 x2 x3 x4 x5 =
 (if (cop .lss x5 x4)=true then
 Zl x3 x5 hs6 fun (r6:Qt11)=>
 (g72 r6.1 r6.2.1 r6.2.2.1 r6.2.2.2.1 r6.2.2.2.2.1 r6.2.2.2.2.2.1 r6.2.2.2.2.2.2.1 r6.2.2.2.2.2.2.2.1 r6.2.2.2.2.2.2.2.2.1 r6.2.2.2.2.2.2.2.2.2.1 r6.2.2.2.2.2.2.2.2.2.2.1 r6.2.2.2.2.2.2.2.2.2.2.2.1 (d4 (d8 r6)).1 (d4 (d8 r6)).2.1 (d2 (d4 (d8 r6)))).bind fun (r21:Bool)=>
 if (!r21)=true then
 if ((cop .eql r6.1 x0)&&((cop .eql r6.2.1 x1)&&((cop .eql r6.2.2.1 x2)&&true)))=true then
 some (x5,true)
 else
 Zds k x0 x1 x2 x3 x4 (iop .add .i64 x5 1)
 else
 Zds k x0 x1 x2 x3 x4 (iop .add .i64 x5 1)
 else
 some (0,false)):=by kernel_rfl
theorem ZrS (x0:LL) (x1 x2 x3:Int):Zwi x0 x1 x2 x3 =
 (Zds Zx x1 x2 x3 x0 (List.length x0:Int) 0):=by kernel_rfl
noncomputable def ZuJ:Fn:=⟨32,[2],[(4,[(0,.c (.slice 15)),(10,.c (.slice 15)),(11,.c (.int .i64)),(12,.c (.int .i64))])],[],0,[],[],Tryz.f155,[.c (.slice 15)],[.c (.bool)],[(169,Zv5.S),(134,Zsm.S)]⟩
theorem ZxN:ZuJ.S.Ok Tryz.prog 155:=ZuJ.ok Tryz.func155 (by kernel_rfl) ⟨Zyb,⟨ZuD,trivial⟩⟩
noncomputable def ZwP (x0:LL):Option (Bool):=ZuJ.S.g [.l x0]
noncomputable def Zeh (k:Nat) (x0 x1:LL) (x2 x3:Int):Option (Bool):=ZuJ.lp [1,0] 0 r0 k [.l x0,.l x1,.i x2,.i x3]
theorem Zhv (k:Nat) (x0 x1:LL) (x2 x3:Int):Zeh (k+1) x0 x1 x2 x3 =
 (if (cop .lss x3 x2)=true then
 Zl x1 x3 hs6 fun (r4:Qt11)=>
 (Zxp r4.1 r4.2.1 r4.2.2.1 r4.2.2.2.1 r4.2.2.2.2.1 r4.2.2.2.2.2.1 r4.2.2.2.2.2.2.1 r4.2.2.2.2.2.2.2.1 r4.2.2.2.2.2.2.2.2.1 r4.2.2.2.2.2.2.2.2.2.1 r4.2.2.2.2.2.2.2.2.2.2.1 r4.2.2.2.2.2.2.2.2.2.2.2.1 (d4 (d8 r4)).1 (d4 (d8 r4)).2.1 (d2 (d4 (d8 r4)))).bind fun (r19:Bool)=>
 if (!r19)=true then
 some (false)
 else
 Zw ((0:Int)≤x3)<|
 Zw ((x3:Int)≤(List.length x0:Int))<|
 (Zwi (List.take (Int.toNat x3) x0) r4.1 r4.2.1 r4.2.2.1).bind fun (r20:Int×Bool)=>
 if r20.2=true then
 some (false)
 else
 Zeh k x0 x1 x2 (iop .add .i64 x3 1)
 else
 some (true)):=by kernel_rfl
theorem ZrC (x0:LL):ZwP x0 =
 (if (cop .gtr (List.length x0:Int) 64)=true then
 some (false)
 else
 Zeh Zx x0 x0 (List.length x0:Int) 0):=by kernel_rfl
noncomputable def Zvu:Fn:=⟨6,[2],[],[],0,[],[],Tryz.f171,[.agg hs3],[.c (.bool)],[(111,Zuk.S)]⟩
theorem ZxE:Zvu.S.Ok Tryz.prog 171:=Zvu.ok Tryz.func171 (by kernel_rfl) ⟨Zt7,trivial⟩
noncomputable def ZyE (x0 x1 x2 x3 x4 x5 x6 x7 x8 x9 x10 x11 x12 x13 x14 x15 x16 x17 x18 x19:Int) (x20:LL) (x21 x22 x23 x24 x25 x26:Int) (x27:Bool):Option (Bool):=Zvu.S.g [.i x0,.i x1,.i x2,.i x3,.i x4,.i x5,.i x6,.i x7,.i x8,.i x9,.i x10,.i x11,.i x12,.i x13,.i x14,.i x15,.i x16,.i x17,.i x18,.i x19,.l x20,.i x21,.i x22,.i x23,.i x24,.i x25,.i x26,.b x27]
theorem ZpP (x0 x1 x2 x3 x4 x5 x6 x7 x8 x9 x10 x11 x12 x13 x14 x15 x16 x17 x18 x19:Int) (x20:LL) (x21 x22 x23 x24 x25 x26:Int) (x27:Bool):ZyE x0 x1 x2 x3 x4 x5 x6 x7 x8 x9 x10 x11 x12 x13 x14 x15 x16 x17 x18 x19 x20 x21 x22 x23 x24 x25 x26 x27 =
 ((ZvA x0 x1 x2 x3 x4 x5 x6 x7 x8 x9 x10 x11 x12 x13 x14 x15 x16 x17 x18 x19 x20 x21 x22 x23 x24 x25 x26 x27).bind fun (r28:Bool)=>
 some ((!r28))):=by kernel_rfl
noncomputable def ZaU:Fn:=⟨19,[4],[(2,[(0,.c (.slice 28)),(1,.clo 171 []),(7,.c (.int .i64)),(8,.c (.int .i64))])],[],0,[],[],Tryz.f184,[.c (.slice 28),.clo 171 []],[.c (.int .i64)],[(171,Zvu.S)]⟩
theorem ZlL:ZaU.S.Ok Tryz.prog 184:=ZaU.ok Tryz.func184 (by kernel_rfl) ⟨ZxE,trivial⟩
noncomputable def ZfY (x0:LL):Option (Int):=ZaU.S.g [.l x0]
noncomputable def KD (k:Nat) (x0:LL) (x1 x2:Int):Option (Int):=ZaU.lp [0] 0 r0 k [.l x0,.i x1,.i x2]
theorem ZaM (k:Nat) (x0:LL) (x1 x2:Int):KD (k+1) x0 x1 x2 =
 (if (cop .lss x2 x1)=true then
 Zl x0 x2 hs3 fun (r3:Qt5)=>
 (ZyE r3.1 r3.2.1 r3.2.2.1 r3.2.2.2.1 r3.2.2.2.2.1 r3.2.2.2.2.2.1 r3.2.2.2.2.2.2.1 r3.2.2.2.2.2.2.2.1 r3.2.2.2.2.2.2.2.2.1 r3.2.2.2.2.2.2.2.2.2.1 r3.2.2.2.2.2.2.2.2.2.2.1 r3.2.2.2.2.2.2.2.2.2.2.2.1 (d4 (d8 r3)).1 (d4 (d8 r3)).2.1 (d2 (d4 (d8 r3))).1 (d2 (d4 (d8 r3))).2.1 (d16 r3).1 (d16 r3).2.1 (d2 (d16 r3)).1 (d2 (d16 r3)).2.1 (d4 (d16 r3)).1 (d4 (d16 r3)).2.1 (d2 (d4 (d16 r3))).1 (d2 (d4 (d16 r3))).2.1 (d8 (d16 r3)).1 (d8 (d16 r3)).2.1 (d2 (d8 (d16 r3))).1 (d2 (d8 (d16 r3))).2).bind fun (r31:Bool)=>
 if r31=true then
 some (x2)
 else
 KD k x0 x1 (iop .add .i64 x2 1)
 else
 some ((-1))):=by kernel_rfl
theorem ZiA (x0:LL):ZfY x0 =
 (KD Zx x0 (List.length x0:Int) 0):=by kernel_rfl
noncomputable def Zb8:Fn:=⟨9,[4],[],[],0,[],[],Tryz.f170,[.c (.slice 28),.clo 171 []],[.c (.bool)],[(184,ZaU.S)]⟩
theorem Zlt:Zb8.S.Ok Tryz.prog 170:=Zb8.ok Tryz.func170 (by kernel_rfl) ⟨ZlL,trivial⟩
noncomputable def Zfx (x0:LL):Option (Bool):=Zb8.S.g [.l x0]
theorem ZiL (x0:LL):Zfx x0 =
 ((ZfY x0).bind fun (r1:Int)=>
 some ((cop .geq r1 0))):=by kernel_rfl
noncomputable def ZvN:Fn:=⟨6,[2],[],[],0,[],[],Tryz.f190,[.c (.int .i64)],[.c (.bool)],[]⟩
theorem ZxO:ZvN.S.Ok Tryz.prog 190:=ZvN.ok Tryz.func190 (by kernel_rfl) trivial
noncomputable def Zv6 (x0:Int):Option (Bool):=ZvN.S.g [.i x0]
theorem ZpO (x0:Int):Zv6 x0 =
 (some ((cop .neq x0 x0))):=by kernel_rfl
noncomputable def Zvr:Fn:=⟨20,[4],[],[],0,[],[],Tryz.f189,[.c (.int .i64),.c (.int .i64)],[.c (.int .i64)],[(190,ZvN.S)]⟩
theorem Zyh:Zvr.S.Ok Tryz.prog 189:=Zvr.ok Tryz.func189 (by kernel_rfl) ⟨ZxO,trivial⟩
noncomputable def ZuR (x0 x1:Int):Option (Int):=Zvr.S.g [.i x0,.i x1]
theorem ZqX (x0 x1:Int):ZuR x0 x1 =
 ((Zv6 x0).bind fun (r2:Bool)=>
 (Zv6 x1).bind fun (r3:Bool)=>
 if r2=true then
 if r3=true then
 some (0)
 else
 some ((-1))
 else
 if r3=true then
 some (1)
 else
 if (cop .lss x0 x1)=true then
 some ((-1))
 else
 if (cop .gtr x0 x1)=true then
 some (1)
 else
 some (0)):=by kernel_rfl
noncomputable def Zs8:Fn:=⟨18,[2],[(3,[(3,.c (.int .i64)),(6,.c (.slice 1)),(7,.c (.int .i64)),(8,.c (.int .i64))])],[],0,[],[],Tryz.f188,[.c (.slice 1)],[.c (.int .i64)],[]⟩
theorem ZxP:Zs8.S.Ok Tryz.prog 188:=Zs8.ok Tryz.func188 (by kernel_rfl) trivial
noncomputable def ZxC (x0:LL):Option (Int):=Zs8.S.g [.l x0]
noncomputable def ZlR (k:Nat) (x0:Int) (x1:LL) (x2 x3:Int):Option (Int):=Zs8.lp [0] 0 r0 k [.i x0,.l x1,.i x2,.i x3]
theorem Zaz (k:Nat) (x0:Int) (x1:LL) (x2 x3:Int):ZlR (k+1) x0 x1 x2 x3 =
 (if (cop .lss x3 x2)=true then
 Zl x1 x3 [.int .i64] fun (r4:Int)=>
 if (cop .neq r4 x0)=true then
 some (r4)
 else
 ZlR k x0 x1 x2 (iop .add .i64 x3 1)
 else
 some (x0)):=by kernel_rfl
theorem Zqb (x0:LL):ZxC x0 =
 (ZlR Zx 0 x0 (List.length x0:Int) 0):=by kernel_rfl
noncomputable def ZvX:Fn:=⟨22,[4],[],[],0,[],[],Tryz.f185,[.agg [.int .i64,.int .i64,.int .i64],.agg [.int .i64,.int .i64,.int .i64]],[.c (.int .i64)],[(189,Zvr.S),(188,Zs8.S)]⟩
theorem ZwI:ZvX.S.Ok Tryz.prog 185:=ZvX.ok Tryz.func185 (by kernel_rfl) ⟨Zyh,⟨ZxP,trivial⟩⟩
noncomputable def ZxK (x0 x1 x2 x3 x4 x5:Int):Option (Int):=ZvX.S.g [.i x0,.i x1,.i x2,.i x3,.i x4,.i x5]
theorem ZrY (x0 x1 x2 x3 x4 x5:Int):ZxK x0 x1 x2 x3 x4 x5 =
 ((ZuR x0 x3).bind fun (r6:Int)=>
 (ZuR x1 x4).bind fun (r7:Int)=>
 (ZuR x2 x5).bind fun (r8:Int)=>
 (ZxC (((E0++[[AV.val (.int .i64 r6)]])++[[AV.val (.int .i64 r7)]])++[[AV.val (.int .i64 r8)]])).bind fun (r9:Int)=>
 some (r9)):=by kernel_rfl
noncomputable def Zu9:Fn:=⟨9,[4],[],[],0,[],[],Tryz.f173,[.agg [.int .i64,.int .i64,.int .i64],.agg [.int .i64,.int .i64,.int .i64]],[.c (.bool)],[(185,ZvX.S)]⟩
theorem Zu4:Zu9.S.Ok Tryz.prog 173:=Zu9.ok Tryz.func173 (by kernel_rfl) ⟨ZwI,trivial⟩
noncomputable def ZvL (x0 x1 x2 x3 x4 x5:Int):Option (Bool):=Zu9.S.g [.i x0,.i x1,.i x2,.i x3,.i x4,.i x5]
theorem ZqP (x0 x1 x2 x3 x4 x5:Int):ZvL x0 x1 x2 x3 x4 x5 =
 ((ZxK x0 x1 x2 x3 x4 x5).bind fun (r6:Int)=>
 some ((cop .lss r6 0))):=by kernel_rfl
noncomputable def ZvF:Fn:=⟨17,[5],[],[2],0,[],[],Tryz.f172,[.c (.int .i64),.c (.int .i64),.box [.slice 28]],[.c (.bool)],[(173,Zu9.S)]⟩
theorem ZxY:ZvF.S.Ok Tryz.prog 172:=ZvF.ok Tryz.func172 (by kernel_rfl) ⟨Zu4,trivial⟩
noncomputable def Zxx (x0 x1:Int) (x2:LL):Option (Bool×LL):=ZvF.S.g [.i x0,.i x1,.l x2]
theorem ZpV (x0 x1:Int) (x2:LL):Zxx x0 x1 x2 =
 (Zl x2 x0 hs3 fun (r3:Qt5)=>
 Zl x2 x1 hs3 fun (r31:Qt5)=>
 (ZvL r3.1 r3.2.1 r3.2.2.1 r31.1 r31.2.1 r31.2.2.1).bind fun (r59:Bool)=>
 some (r59,x2)):=by kernel_rfl
noncomputable def Zaj:Fn:=⟨17,[4],[(2,[(0,.c (.int .i64)),(1,.clo 172 [17]),(5,.c (.int .i64)),(17,.gbox [.slice 28])])],[],1,[],[],Tryz.f123,[.c (.int .i64),.clo 172 [17],.dead,.dead,.dead,.dead,.dead,.dead,.dead,.dead,.dead,.dead,.dead,.dead,.dead,.dead,.dead,.gbox [.slice 28]],[.c (.bool)],[(172,ZvF.S)]⟩
theorem ZmP:Zaj.S.Ok Tryz.prog 123:=Zaj.ok Tryz.func123 (by kernel_rfl) ⟨ZxY,trivial⟩
noncomputable def Ze6 (x0:Int) (x1:LL):Option (Bool×LL):=Zaj.S.g [.i x0,.l x1]
noncomputable def Kr (k:Nat) (x0 x1:Int) (x2:LL):Option (Bool×LL):=Zaj.lp [0] 0 r0 k [.i x0,.i x1,.l x2]
theorem Zau (k:Nat) (x0 x1:Int) (x2:LL):Kr (k+1) x0 x1 x2 =
 (if (cop .lss x1 x0)=true then
 (Zxx (iop .sub .i64 x1 1) x1 x2).bind fun (r3:Bool×LL)=>
 if (!r3.1)=true then
 some (false,r3.2)
 else
 Kr k x0 (iop .add .i64 x1 1) r3.2
 else
 some (true,x2)):=by kernel_rfl
theorem Zh7 (x0:Int) (x1:LL):Ze6 x0 x1 =
 (Kr Zx x0 1 x1):=by kernel_rfl
noncomputable def ZvQ:Fn:=⟨12,[2],[],[],0,[],[],Tryz.f156,[.c (.slice 28)],[.c (.bool)],[(170,Zb8.S),(123,Zaj.S)]⟩
theorem ZyB:ZvQ.S.Ok Tryz.prog 156:=ZvQ.ok Tryz.func156 (by kernel_rfl) ⟨Zlt,⟨ZmP,trivial⟩⟩
noncomputable def ZxF (x0:LL):Option (Bool):=ZvQ.S.g [.l x0]
theorem ZqD (x0:LL):ZxF x0 =
 ((Zfx x0).bind fun (r1:Bool)=>
 if (!r1)=true then
 (Ze6 (List.length x0:Int) x0).bind fun (r2:Bool×LL)=>
 some (r2.1)
 else
 some (false)):=by kernel_rfl
noncomputable def Zvw:Fn:=⟨13,[2],[],[],0,[],[],Tryz.f175,[.agg [.int .i64,.int .i64,.int .i64,.int .i64]],[.c (.bool)],[(110,Zqj.S),(112,Zqm.S)]⟩
theorem Zx9:Zvw.S.Ok Tryz.prog 175:=Zvw.ok Tryz.func175 (by kernel_rfl) ⟨ZnQ,⟨ZoN,trivial⟩⟩
noncomputable def ZxJ (x0 x1 x2 x3:Int):Option (Bool):=Zvw.S.g [.i x0,.i x1,.i x2,.i x3]
theorem Zrm (x0 x1 x2 x3:Int):ZxJ x0 x1 x2 x3 =
 ((Zr4 x0).bind fun (r4:Bool)=>
 if (!r4)=true then
 some (true)
 else
 (Zsc x1 x2 x3).bind fun (r5:Bool)=>
 some ((!r5))):=by kernel_rfl
noncomputable def W9:Fn:=⟨19,[4],[(2,[(0,.c (.slice 4)),(1,.clo 175 []),(7,.c (.int .i64)),(8,.c (.int .i64))])],[],0,[],[],Tryz.f135,[.c (.slice 4),.clo 175 []],[.c (.int .i64)],[(175,Zvw.S)]⟩
theorem Zl8:W9.S.Ok Tryz.prog 135:=W9.ok Tryz.func135 (by kernel_rfl) ⟨Zx9,trivial⟩
noncomputable def Zfz (x0:LL):Option (Int):=W9.S.g [.l x0]
noncomputable def Kv (k:Nat) (x0:LL) (x1 x2:Int):Option (Int):=W9.lp [0] 0 r0 k [.l x0,.i x1,.i x2]
theorem Zbc (k:Nat) (x0:LL) (x1 x2:Int):Kv (k+1) x0 x1 x2 =
 (if (cop .lss x2 x1)=true then
 Zl x0 x2 [.int .i64,.int .i64,.int .i64,.int .i64] fun (r3:Int×Int×Int×Int)=>
 (ZxJ r3.1 r3.2.1 r3.2.2.1 r3.2.2.2).bind fun (r7:Bool)=>
 if r7=true then
 some (x2)
 else
 Kv k x0 x1 (iop .add .i64 x2 1)
 else
 some ((-1))):=by kernel_rfl
theorem ZhF (x0:LL):Zfz x0 =
 (Kv Zx x0 (List.length x0:Int) 0):=by kernel_rfl
noncomputable def Zch:Fn:=⟨9,[4],[],[],0,[],[],Tryz.f174,[.c (.slice 4),.clo 175 []],[.c (.bool)],[(135,W9.S)]⟩
theorem ZmI:Zch.S.Ok Tryz.prog 174:=Zch.ok Tryz.func174 (by kernel_rfl) ⟨Zl8,trivial⟩
noncomputable def ZfH (x0:LL):Option (Bool):=Zch.S.g [.l x0]
theorem Zh2 (x0:LL):ZfH x0 =
 ((Zfz x0).bind fun (r1:Int)=>
 some ((cop .geq r1 0))):=by kernel_rfl
noncomputable def Zwe:Fn:=⟨17,[5],[],[2],0,[],[],Tryz.f176,[.c (.int .i64),.c (.int .i64),.box [.slice 4]],[.c (.bool)],[]⟩
theorem ZwG:Zwe.S.Ok Tryz.prog 176:=Zwe.ok Tryz.func176 (by kernel_rfl) trivial
noncomputable def ZwH (x0 x1:Int) (x2:LL):Option (Bool×LL):=Zwe.S.g [.i x0,.i x1,.l x2]
theorem ZrM (x0 x1:Int) (x2:LL):ZwH x0 x1 x2 =
 (Zl x2 x0 [.int .i64,.int .i64,.int .i64,.int .i64] fun (r3:Int×Int×Int×Int)=>
 Zl x2 x1 [.int .i64,.int .i64,.int .i64,.int .i64] fun (r7:Int×Int×Int×Int)=>
 some ((cop .lss r3.1 r7.1),x2)):=by kernel_rfl
noncomputable def ZaS:Fn:=⟨17,[4],[(2,[(0,.c (.int .i64)),(1,.clo 176 [17]),(5,.c (.int .i64)),(17,.gbox [.slice 4])])],[],1,[],[],Tryz.f123,[.c (.int .i64),.clo 176 [17],.dead,.dead,.dead,.dead,.dead,.dead,.dead,.dead,.dead,.dead,.dead,.dead,.dead,.dead,.dead,.gbox [.slice 4]],[.c (.bool)],[(176,Zwe.S)]⟩
theorem ZlS:ZaS.S.Ok Tryz.prog 123:=ZaS.ok Tryz.func123 (by kernel_rfl) ⟨ZwG,trivial⟩
noncomputable def Zfd (x0:Int) (x1:LL):Option (Bool×LL):=ZaS.S.g [.i x0,.l x1]
noncomputable def Kq (k:Nat) (x0 x1:Int) (x2:LL):Option (Bool×LL):=ZaS.lp [0] 0 r0 k [.i x0,.i x1,.l x2]
theorem ZaG (k:Nat) (x0 x1:Int) (x2:LL):Kq (k+1) x0 x1 x2 =
 (if (cop .lss x1 x0)=true then
 (ZwH (iop .sub .i64 x1 1) x1 x2).bind fun (r3:Bool×LL)=>
 if (!r3.1)=true then
 some (false,r3.2)
 else
 Kq k x0 (iop .add .i64 x1 1) r3.2
 else
 some (true,x2)):=by kernel_rfl
theorem ZhB (x0:Int) (x1:LL):Zfd x0 x1 =
 (Kq Zx x0 1 x1):=by kernel_rfl
noncomputable def Zv4:Fn:=⟨12,[2],[],[],0,[],[],Tryz.f157,[.c (.slice 4)],[.c (.bool)],[(174,Zch.S),(123,ZaS.S)]⟩
theorem Zw7:Zv4.S.Ok Tryz.prog 157:=Zv4.ok Tryz.func157 (by kernel_rfl) ⟨ZmI,⟨ZlS,trivial⟩⟩
noncomputable def Zys (x0:LL):Option (Bool):=Zv4.S.g [.l x0]
theorem Zrv (x0:LL):Zys x0 =
 ((ZfH x0).bind fun (r1:Bool)=>
 if (!r1)=true then
 (Zfd (List.length x0:Int) x0).bind fun (r2:Bool×LL)=>
 some (r2.1)
 else
 some (false)):=by kernel_rfl
noncomputable def ZvM:Fn:=⟨17,[2],[],[],0,[],[],Tryz.f178,[.agg [.int .i64,.int .i64]],[.c (.bool)],[(113,Ztu.S)]⟩
theorem Zxl:ZvM.S.Ok Tryz.prog 178:=ZvM.ok Tryz.func178 (by kernel_rfl) ⟨Zve,trivial⟩
noncomputable def Zyo (x0 x1:Int):Option (Bool):=ZvM.S.g [.i x0,.i x1]
theorem Zrd (x0 x1:Int):Zyo x0 x1 =
 (if (cop .lss x0 1)=true then
 some (true)
 else
 if (cop .gtr x0 1073741824)=true then
 some (true)
 else
 (Zwb x1).bind fun (r2:Bool)=>
 some ((!r2))):=by kernel_rfl
noncomputable def Zan:Fn:=⟨19,[4],[(2,[(0,.c (.slice 2)),(1,.clo 178 []),(7,.c (.int .i64)),(8,.c (.int .i64))])],[],0,[],[],Tryz.f186,[.c (.slice 2),.clo 178 []],[.c (.int .i64)],[(178,ZvM.S)]⟩
theorem Zml:Zan.S.Ok Tryz.prog 186:=Zan.ok Tryz.func186 (by kernel_rfl) ⟨Zxl,trivial⟩
noncomputable def ZfP (x0:LL):Option (Int):=Zan.S.g [.l x0]
noncomputable def Kn (k:Nat) (x0:LL) (x1 x2:Int):Option (Int):=Zan.lp [0] 0 r0 k [.l x0,.i x1,.i x2]
theorem ZaQ (k:Nat) (x0:LL) (x1 x2:Int):Kn (k+1) x0 x1 x2 =
 (if (cop .lss x2 x1)=true then
 Zl x0 x2 [.int .i64,.int .i64] fun (r3:Int×Int)=>
 (Zyo r3.1 r3.2).bind fun (r5:Bool)=>
 if r5=true then
 some (x2)
 else
 Kn k x0 x1 (iop .add .i64 x2 1)
 else
 some ((-1))):=by kernel_rfl
theorem Zim (x0:LL):ZfP x0 =
 (Kn Zx x0 (List.length x0:Int) 0):=by kernel_rfl
noncomputable def Zb7:Fn:=⟨9,[4],[],[],0,[],[],Tryz.f177,[.c (.slice 2),.clo 178 []],[.c (.bool)],[(186,Zan.S)]⟩
theorem Zl0:Zb7.S.Ok Tryz.prog 177:=Zb7.ok Tryz.func177 (by kernel_rfl) ⟨Zml,trivial⟩
noncomputable def Zfg (x0:LL):Option (Bool):=Zb7.S.g [.l x0]
theorem ZhV (x0:LL):Zfg x0 =
 ((ZfP x0).bind fun (r1:Int)=>
 some ((cop .geq r1 0))):=by kernel_rfl
noncomputable def Zwa:Fn:=⟨17,[5],[],[2],0,[],[],Tryz.f179,[.c (.int .i64),.c (.int .i64),.box [.slice 2]],[.c (.bool)],[]⟩
theorem Zx2:Zwa.S.Ok Tryz.prog 179:=Zwa.ok Tryz.func179 (by kernel_rfl) trivial
noncomputable def Zwn (x0 x1:Int) (x2:LL):Option (Bool×LL):=Zwa.S.g [.i x0,.i x1,.l x2]
theorem Zp8 (x0 x1:Int) (x2:LL):Zwn x0 x1 x2 =
 (Zl x2 x0 [.int .i64,.int .i64] fun (r3:Int×Int)=>
 Zl x2 x1 [.int .i64,.int .i64] fun (r5:Int×Int)=>
 some ((cop .lss r3.1 r5.1),x2)):=by kernel_rfl
noncomputable def Zak:Fn:=⟨17,[4],[(2,[(0,.c (.int .i64)),(1,.clo 179 [17]),(5,.c (.int .i64)),(17,.gbox [.slice 2])])],[],1,[],[],Tryz.f123,[.c (.int .i64),.clo 179 [17],.dead,.dead,.dead,.dead,.dead,.dead,.dead,.dead,.dead,.dead,.dead,.dead,.dead,.dead,.dead,.gbox [.slice 2]],[.c (.bool)],[(179,Zwa.S)]⟩
theorem ZmA:Zak.S.Ok Tryz.prog 123:=Zak.ok Tryz.func123 (by kernel_rfl) ⟨Zx2,trivial⟩
noncomputable def Zfl (x0:Int) (x1:LL):Option (Bool×LL):=Zak.S.g [.i x0,.l x1]
noncomputable def KA (k:Nat) (x0 x1:Int) (x2:LL):Option (Bool×LL):=Zak.lp [0] 0 r0 k [.i x0,.i x1,.l x2]
theorem Za5 (k:Nat) (x0 x1:Int) (x2:LL):KA (k+1) x0 x1 x2 =
 (if (cop .lss x1 x0)=true then
 (Zwn (iop .sub .i64 x1 1) x1 x2).bind fun (r3:Bool×LL)=>
 if (!r3.1)=true then
 some (false,r3.2)
 else
 KA k x0 (iop .add .i64 x1 1) r3.2
 else
 some (true,x2)):=by kernel_rfl
theorem Ziv (x0:Int) (x1:LL):Zfl x0 x1 =
 (KA Zx x0 1 x1):=by kernel_rfl
noncomputable def Zwj:Fn:=⟨12,[2],[],[],0,[],[],Tryz.f158,[.c (.slice 2)],[.c (.bool)],[(177,Zb7.S),(123,Zak.S)]⟩
theorem Zyt:Zwj.S.Ok Tryz.prog 158:=Zwj.ok Tryz.func158 (by kernel_rfl) ⟨Zl0,⟨ZmA,trivial⟩⟩
noncomputable def Zw3 (x0:LL):Option (Bool):=Zwj.S.g [.l x0]
theorem Zqw (x0:LL):Zw3 x0 =
 ((Zfg x0).bind fun (r1:Bool)=>
 if (!r1)=true then
 (Zfl (List.length x0:Int) x0).bind fun (r2:Bool×LL)=>
 some (r2.1)
 else
 some (false)):=by kernel_rfl
noncomputable def ZvT:Fn:=⟨19,[2],[],[],0,[],[],Tryz.f181,[.agg hs7],[.c (.bool)],[(67,F67.S),(117,Zsq.S),(116,ZoV.S)]⟩
theorem Zyc:ZvT.S.Ok Tryz.prog 181:=ZvT.ok Tryz.func181 (by kernel_rfl) ⟨Zq9,⟨Zt9,⟨Zl4,trivial⟩⟩⟩
noncomputable def Zwv (x0 x1 x2 x3 x4:Int) (x5:LL) (x6 x7 x8 x9 x10 x11:Int) (x12:Bool):Option (Bool):=ZvT.S.g [.i x0,.i x1,.i x2,.i x3,.i x4,.l x5,.i x6,.i x7,.i x8,.i x9,.i x10,.i x11,.b x12]
theorem Zrr (x0 x1 x2 x3 x4:Int) (x5:LL) (x6 x7 x8 x9 x10 x11:Int) (x12:Bool):Zwv x0 x1 x2 x3 x4 x5 x6 x7 x8 x9 x10 x11 x12 =
 ((g67 x0).bind fun (r13:Bool)=>
 if (!r13)=true then
 some (true)
 else
 (ZvK x1).bind fun (r14:Bool)=>
 if (!r14)=true then
 some (true)
 else
 (Zpt x2 x3 x4 x5 x6 x7 x8 x9 x10 x11 x12).bind fun (r15:Bool)=>
 some ((!r15))):=by kernel_rfl
noncomputable def Za2:Fn:=⟨19,[4],[(2,[(0,.c (.slice 13)),(1,.clo 181 []),(7,.c (.int .i64)),(8,.c (.int .i64))])],[],0,[],[],Tryz.f187,[.c (.slice 13),.clo 181 []],[.c (.int .i64)],[(181,ZvT.S)]⟩
theorem Zl1:Za2.S.Ok Tryz.prog 187:=Za2.ok Tryz.func187 (by kernel_rfl) ⟨Zyc,trivial⟩
noncomputable def ZfI (x0:LL):Option (Int):=Za2.S.g [.l x0]
noncomputable def Kx (k:Nat) (x0:LL) (x1 x2:Int):Option (Int):=Za2.lp [0] 0 r0 k [.l x0,.i x1,.i x2]
theorem Za8 (k:Nat) (x0:LL) (x1 x2:Int):Kx (k+1) x0 x1 x2 =
 (if (cop .lss x2 x1)=true then
 Zl x0 x2 hs7 fun (r3:Qt12)=>
 (Zwv r3.1 r3.2.1 r3.2.2.1 r3.2.2.2.1 r3.2.2.2.2.1 r3.2.2.2.2.2.1 r3.2.2.2.2.2.2.1 r3.2.2.2.2.2.2.2.1 r3.2.2.2.2.2.2.2.2.1 r3.2.2.2.2.2.2.2.2.2.1 r3.2.2.2.2.2.2.2.2.2.2.1 r3.2.2.2.2.2.2.2.2.2.2.2.1 (d4 (d8 r3))).bind fun (r16:Bool)=>
 if r16=true then
 some (x2)
 else
 Kx k x0 x1 (iop .add .i64 x2 1)
 else
 some ((-1))):=by kernel_rfl
theorem ZhO (x0:LL):ZfI x0 =
 (Kx Zx x0 (List.length x0:Int) 0):=by kernel_rfl
noncomputable def Zcp:Fn:=⟨9,[4],[],[],0,[],[],Tryz.f180,[.c (.slice 13),.clo 181 []],[.c (.bool)],[(187,Za2.S)]⟩
theorem Zm0:Zcp.S.Ok Tryz.prog 180:=Zcp.ok Tryz.func180 (by kernel_rfl) ⟨Zl1,trivial⟩
noncomputable def ZfB (x0:LL):Option (Bool):=Zcp.S.g [.l x0]
theorem ZiD (x0:LL):ZfB x0 =
 ((ZfI x0).bind fun (r1:Int)=>
 some ((cop .geq r1 0))):=by kernel_rfl
noncomputable def Zwh:Fn:=⟨19,[5],[],[2],0,[],[],Tryz.f182,[.c (.int .i64),.c (.int .i64),.box [.slice 13]],[.c (.bool)],[(173,Zu9.S)]⟩
theorem Zww:Zwh.S.Ok Tryz.prog 182:=Zwh.ok Tryz.func182 (by kernel_rfl) ⟨Zu4,trivial⟩
noncomputable def Zxu (x0 x1:Int) (x2:LL):Option (Bool×LL):=Zwh.S.g [.i x0,.i x1,.l x2]
theorem ZqJ (x0 x1:Int) (x2:LL):Zxu x0 x1 x2 =
 (Zl x2 x0 hs7 fun (r3:Qt12)=>
 Zl x2 x1 hs7 fun (r16:Qt12)=>
 (ZvL r3.2.2.1 r3.2.2.2.1 r3.2.2.2.2.1 r16.2.2.1 r16.2.2.2.1 r16.2.2.2.2.1).bind fun (r29:Bool)=>
 some (r29,x2)):=by kernel_rfl
noncomputable def ZaV:Fn:=⟨17,[4],[(2,[(0,.c (.int .i64)),(1,.clo 182 [17]),(5,.c (.int .i64)),(17,.gbox [.slice 13])])],[],1,[],[],Tryz.f123,[.c (.int .i64),.clo 182 [17],.dead,.dead,.dead,.dead,.dead,.dead,.dead,.dead,.dead,.dead,.dead,.dead,.dead,.dead,.dead,.gbox [.slice 13]],[.c (.bool)],[(182,Zwh.S)]⟩
theorem ZmJ:ZaV.S.Ok Tryz.prog 123:=ZaV.ok Tryz.func123 (by kernel_rfl) ⟨Zww,trivial⟩
noncomputable def Zfi (x0:Int) (x1:LL):Option (Bool×LL):=ZaV.S.g [.i x0,.l x1]
noncomputable def Kw (k:Nat) (x0 x1:Int) (x2:LL):Option (Bool×LL):=ZaV.lp [0] 0 r0 k [.i x0,.i x1,.l x2]
theorem ZaT (k:Nat) (x0 x1:Int) (x2:LL):Kw (k+1) x0 x1 x2 =
 (if (cop .lss x1 x0)=true then
 (Zxu (iop .sub .i64 x1 1) x1 x2).bind fun (r3:Bool×LL)=>
 if (!r3.1)=true then
 some (false,r3.2)
 else
 Kw k x0 (iop .add .i64 x1 1) r3.2
 else
 some (true,x2)):=by kernel_rfl
theorem ZiB (x0:Int) (x1:LL):Zfi x0 x1 =
 (Kw Zx x0 1 x1):=by kernel_rfl
noncomputable def ZvD:Fn:=⟨12,[2],[],[],0,[],[],Tryz.f159,[.c (.slice 13)],[.c (.bool)],[(180,Zcp.S),(123,ZaV.S)]⟩
theorem Zxz:ZvD.S.Ok Tryz.prog 159:=ZvD.ok Tryz.func159 (by kernel_rfl) ⟨Zm0,⟨ZmJ,trivial⟩⟩
noncomputable def ZxS (x0:LL):Option (Bool):=ZvD.S.g [.l x0]
theorem Zq3 (x0:LL):ZxS x0 =
 ((ZfB x0).bind fun (r1:Bool)=>
 if (!r1)=true then
 (Zfi (List.length x0:Int) x0).bind fun (r2:Bool×LL)=>
 some (r2.1)
 else
 some (false)):=by kernel_rfl
noncomputable def ZvJ:Fn:=⟨6,[2],[],[],0,[],[],Tryz.f160,[.agg [.int .i64,.int .i64,.int .i64]],[.c (.bool)],[(112,Zqm.S)]⟩
theorem ZxI:ZvJ.S.Ok Tryz.prog 160:=ZvJ.ok Tryz.func160 (by kernel_rfl) ⟨ZoN,trivial⟩
noncomputable def Zyz (x0 x1 x2:Int):Option (Bool):=ZvJ.S.g [.i x0,.i x1,.i x2]
theorem ZrD (x0 x1 x2:Int):Zyz x0 x1 x2 =
 ((Zsc x0 x1 x2).bind fun (r3:Bool)=>
 some ((!r3))):=by kernel_rfl
noncomputable def ZaD:Fn:=⟨19,[4],[(2,[(0,.c (.slice 3)),(1,.clo 160 []),(7,.c (.int .i64)),(8,.c (.int .i64))])],[],0,[],[],Tryz.f151,[.c (.slice 3),.clo 160 []],[.c (.int .i64)],[(160,ZvJ.S)]⟩
theorem ZlG:ZaD.S.Ok Tryz.prog 151:=ZaD.ok Tryz.func151 (by kernel_rfl) ⟨ZxI,trivial⟩
noncomputable def Zf3 (x0:LL):Option (Int):=ZaD.S.g [.l x0]
noncomputable def Ky (k:Nat) (x0:LL) (x1 x2:Int):Option (Int):=ZaD.lp [0] 0 r0 k [.l x0,.i x1,.i x2]
theorem ZaI (k:Nat) (x0:LL) (x1 x2:Int):Ky (k+1) x0 x1 x2 =
 (if (cop .lss x2 x1)=true then
 Zl x0 x2 [.int .i64,.int .i64,.int .i64] fun (r3:Int×Int×Int)=>
 (Zyz r3.1 r3.2.1 r3.2.2).bind fun (r6:Bool)=>
 if r6=true then
 some (x2)
 else
 Ky k x0 x1 (iop .add .i64 x2 1)
 else
 some ((-1))):=by kernel_rfl
theorem ZiI (x0:LL):Zf3 x0 =
 (Ky Zx x0 (List.length x0:Int) 0):=by kernel_rfl
noncomputable def Zb4:Fn:=⟨9,[4],[],[],0,[],[],Tryz.f118,[.c (.slice 3),.clo 160 []],[.c (.bool)],[(151,ZaD.S)]⟩
theorem ZlX:Zb4.S.Ok Tryz.prog 118:=Zb4.ok Tryz.func118 (by kernel_rfl) ⟨ZlG,trivial⟩
noncomputable def ZfA (x0:LL):Option (Bool):=Zb4.S.g [.l x0]
theorem Zik (x0:LL):ZfA x0 =
 ((Zf3 x0).bind fun (r1:Int)=>
 some ((cop .geq r1 0))):=by kernel_rfl
noncomputable def Ztd:Fn:=⟨32,[2],[],[],0,[],[],Tryz.f127,[.agg hs16],[.c (.bool)],[(155,ZuJ.S),(156,ZvQ.S),(157,Zv4.S),(158,Zwj.S),(159,ZvD.S),(118,Zb4.S)]⟩
theorem Ztz:Ztd.S.Ok Tryz.prog 127:=Ztd.ok Tryz.func127 (by kernel_rfl) ⟨ZxN,⟨ZyB,⟨Zw7,⟨Zyt,⟨Zxz,⟨ZlX,trivial⟩⟩⟩⟩⟩⟩
noncomputable def ZtG (x0 x1 x2 x3 x4 x5:LL):Option (Bool):=Ztd.S.g [.l x0,.l x1,.l x2,.l x3,.l x4,.l x5]
theorem ZrF (x0 x1 x2 x3 x4 x5:LL):ZtG x0 x1 x2 x3 x4 x5 =
 ((ZwP x0).bind fun (r6:Bool)=>
 if r6=true then
 (ZxF x1).bind fun (r7:Bool)=>
 if r7=true then
 (Zys x2).bind fun (r8:Bool)=>
 if r8=true then
 (Zw3 x3).bind fun (r9:Bool)=>
 if r9=true then
 (ZxS x4).bind fun (r10:Bool)=>
 if r10=true then
 (ZfA x5).bind fun (r11:Bool)=>
 some ((!r11))
 else
 some (false)
 else
 some (false)
 else
 some (false)
 else
 some (false)
 else
 some (false)):=by kernel_rfl
noncomputable def ZvI:Fn:=⟨26,[2],[],[],0,[],[],Tryz.f125,[.agg hs4],[.c (.bool)],[(67,F67.S),(126,Zr1.S),(127,Ztd.S)]⟩
theorem Zyk:ZvI.S.Ok Tryz.prog 125:=ZvI.ok Tryz.func125 (by kernel_rfl) ⟨Zq9,⟨Zto,⟨Ztz,trivial⟩⟩⟩
noncomputable def Zxq (x0 x1:Int) (x2 x3 x4 x5 x6 x7 x8 x9:LL) (x10:Bool) (x11:Int) (x12 x13 x14 x15 x16 x17 x18 x19:LL):Option (Bool):=ZvI.S.g [.i x0,.i x1,.l x2,.l x3,.l x4,.l x5,.l x6,.l x7,.l x8,.l x9,.b x10,.i x11,.l x12,.l x13,.l x14,.l x15,.l x16,.l x17,.l x18,.l x19]
theorem Zqf (x0 x1:Int) (x2 x3 x4 x5 x6 x7 x8 x9:LL) (x10:Bool) (x11:Int) (x12 x13 x14 x15 x16 x17 x18 x19:LL):Zxq x0 x1 x2 x3 x4 x5 x6 x7 x8 x9 x10 x11 x12 x13 x14 x15 x16 x17 x18 x19 =
 ((g67 x0).bind fun (r20:Bool)=>
 if r20=true then
 (Zt8 x1 x2 x3).bind fun (r21:Bool)=>
 if r21=true then
 (ZtG x4 x5 x6 x7 x8 x9).bind fun (r22:Bool)=>
 if r22=true then
 (Zt8 x11 x12 x13).bind fun (r23:Bool)=>
 if r23=true then
 (ZtG x14 x15 x16 x17 x18 x19).bind fun (r24:Bool)=>
 some (r24)
 else
 some (false)
 else
 some (false)
 else
 some (false)
 else
 some (false)):=by kernel_rfl
noncomputable def ZvH:Fn:=⟨6,[2],[],[],0,[],[],Tryz.f115,[.agg hs8],[.c (.bool)],[(116,ZoV.S)]⟩
theorem Zyn:ZvH.S.Ok Tryz.prog 115:=ZvH.ok Tryz.func115 (by kernel_rfl) ⟨Zl4,trivial⟩
noncomputable def ZwD (x0 x1 x2:Int) (x3:LL) (x4 x5 x6 x7 x8 x9:Int) (x10:Bool):Option (Bool):=ZvH.S.g [.i x0,.i x1,.i x2,.l x3,.i x4,.i x5,.i x6,.i x7,.i x8,.i x9,.b x10]
theorem ZpI (x0 x1 x2:Int) (x3:LL) (x4 x5 x6 x7 x8 x9:Int) (x10:Bool):ZwD x0 x1 x2 x3 x4 x5 x6 x7 x8 x9 x10 =
 ((Zpt x0 x1 x2 x3 x4 x5 x6 x7 x8 x9 x10).bind fun (r11:Bool)=>
 some ((!r11))):=by kernel_rfl
noncomputable def ZaZ:Fn:=⟨19,[4],[(2,[(0,.c (.slice 11)),(1,.clo 115 []),(7,.c (.int .i64)),(8,.c (.int .i64))])],[],0,[],[],Tryz.f149,[.c (.slice 11),.clo 115 []],[.c (.int .i64)],[(115,ZvH.S)]⟩
theorem ZlM:ZaZ.S.Ok Tryz.prog 149:=ZaZ.ok Tryz.func149 (by kernel_rfl) ⟨Zyn,trivial⟩
noncomputable def ZfW (x0:LL):Option (Int):=ZaZ.S.g [.l x0]
noncomputable def Km (k:Nat) (x0:LL) (x1 x2:Int):Option (Int):=ZaZ.lp [0] 0 r0 k [.l x0,.i x1,.i x2]
theorem Za7 (k:Nat) (x0:LL) (x1 x2:Int):Km (k+1) x0 x1 x2 =
 (if (cop .lss x2 x1)=true then
 Zl x0 x2 hs8 fun (r3:Qt17)=>
 (ZwD r3.1 r3.2.1 r3.2.2.1 r3.2.2.2.1 r3.2.2.2.2.1 r3.2.2.2.2.2.1 r3.2.2.2.2.2.2.1 r3.2.2.2.2.2.2.2.1 r3.2.2.2.2.2.2.2.2.1 r3.2.2.2.2.2.2.2.2.2.1 r3.2.2.2.2.2.2.2.2.2.2).bind fun (r14:Bool)=>
 if r14=true then
 some (x2)
 else
 Km k x0 x1 (iop .add .i64 x2 1)
 else
 some ((-1))):=by kernel_rfl
theorem ZiK (x0:LL):ZfW x0 =
 (Km Zx x0 (List.length x0:Int) 0):=by kernel_rfl
noncomputable def Zcb:Fn:=⟨9,[4],[],[],0,[],[],Tryz.f114,[.c (.slice 11),.clo 115 []],[.c (.bool)],[(149,ZaZ.S)]⟩
theorem Zl2:Zcb.S.Ok Tryz.prog 114:=Zcb.ok Tryz.func114 (by kernel_rfl) ⟨ZlM,trivial⟩
noncomputable def Wj (x0:LL):Option (Bool):=Zcb.S.g [.l x0]
theorem Zh1 (x0:LL):Wj x0 =
 ((ZfW x0).bind fun (r1:Int)=>
 some ((cop .geq r1 0))):=by kernel_rfl
noncomputable def ZvU:Fn:=⟨6,[2],[],[],0,[],[],Tryz.f119,[.agg [.int .i64,.int .i64,.int .i64]],[.c (.bool)],[(120,ZrI.S)]⟩
theorem ZxQ:ZvU.S.Ok Tryz.prog 119:=ZvU.ok Tryz.func119 (by kernel_rfl) ⟨ZnF,trivial⟩
noncomputable def Zx5 (x0 x1 x2:Int):Option (Bool):=ZvU.S.g [.i x0,.i x1,.i x2]
theorem ZqF (x0 x1 x2:Int):Zx5 x0 x1 x2 =
 ((Zrh x0 x1 x2).bind fun (r3:Bool)=>
 some ((!r3))):=by kernel_rfl
noncomputable def Zac:Fn:=⟨19,[4],[(2,[(0,.c (.slice 3)),(1,.clo 119 []),(7,.c (.int .i64)),(8,.c (.int .i64))])],[],0,[],[],Tryz.f151,[.c (.slice 3),.clo 119 []],[.c (.int .i64)],[(119,ZvU.S)]⟩
theorem Zmx:Zac.S.Ok Tryz.prog 151:=Zac.ok Tryz.func151 (by kernel_rfl) ⟨ZxQ,trivial⟩
noncomputable def ZfO (x0:LL):Option (Int):=Zac.S.g [.l x0]
noncomputable def Ks (k:Nat) (x0:LL) (x1 x2:Int):Option (Int):=Zac.lp [0] 0 r0 k [.l x0,.i x1,.i x2]
theorem Za0 (k:Nat) (x0:LL) (x1 x2:Int):Ks (k+1) x0 x1 x2 =
 (if (cop .lss x2 x1)=true then
 Zl x0 x2 [.int .i64,.int .i64,.int .i64] fun (r3:Int×Int×Int)=>
 (Zx5 r3.1 r3.2.1 r3.2.2).bind fun (r6:Bool)=>
 if r6=true then
 some (x2)
 else
 Ks k x0 x1 (iop .add .i64 x2 1)
 else
 some ((-1))):=by kernel_rfl
theorem ZiJ (x0:LL):ZfO x0 =
 (Ks Zx x0 (List.length x0:Int) 0):=by kernel_rfl
noncomputable def Zca:Fn:=⟨9,[4],[],[],0,[],[],Tryz.f118,[.c (.slice 3),.clo 119 []],[.c (.bool)],[(151,Zac.S)]⟩
theorem Znp:Zca.S.Ok Tryz.prog 118:=Zca.ok Tryz.func118 (by kernel_rfl) ⟨Zmx,trivial⟩
noncomputable def Zct (x0:LL):Option (Bool):=Zca.S.g [.l x0]
theorem Zie (x0:LL):Zct x0 =
 ((ZfO x0).bind fun (r1:Int)=>
 some ((cop .geq r1 0))):=by kernel_rfl
noncomputable def Zv7:Fn:=⟨6,[2],[],[],0,[],[],Tryz.f122,[.c (.int .i64)],[.c (.bool)],[(67,F67.S)]⟩
theorem ZyG:Zv7.S.Ok Tryz.prog 122:=Zv7.ok Tryz.func122 (by kernel_rfl) ⟨Zq9,trivial⟩
noncomputable def ZxU (x0:Int):Option (Bool):=Zv7.S.g [.i x0]
theorem ZrP (x0:Int):ZxU x0 =
 ((g67 x0).bind fun (r1:Bool)=>
 some ((!r1))):=by kernel_rfl
noncomputable def Za1:Fn:=⟨19,[4],[(2,[(0,.c (.slice 1)),(1,.clo 122 []),(7,.c (.int .i64)),(8,.c (.int .i64))])],[],0,[],[],Tryz.f152,[.c (.slice 1),.clo 122 []],[.c (.int .i64)],[(122,Zv7.S)]⟩
theorem Znb:Za1.S.Ok Tryz.prog 152:=Za1.ok Tryz.func152 (by kernel_rfl) ⟨ZyG,trivial⟩
noncomputable def Zfp (x0:LL):Option (Int):=Za1.S.g [.l x0]
noncomputable def Kp (k:Nat) (x0:LL) (x1 x2:Int):Option (Int):=Za1.lp [0] 0 r0 k [.l x0,.i x1,.i x2]
theorem Zav (k:Nat) (x0:LL) (x1 x2:Int):Kp (k+1) x0 x1 x2 =
 (if (cop .lss x2 x1)=true then
 Zl x0 x2 [.int .i64] fun (r3:Int)=>
 (ZxU r3).bind fun (r4:Bool)=>
 if r4=true then
 some (x2)
 else
 Kp k x0 x1 (iop .add .i64 x2 1)
 else
 some ((-1))):=by kernel_rfl
theorem ZhX (x0:LL):Zfp x0 =
 (Kp Zx x0 (List.length x0:Int) 0):=by kernel_rfl
noncomputable def Zcx:Fn:=⟨9,[4],[],[],0,[],[],Tryz.f121,[.c (.slice 1),.clo 122 []],[.c (.bool)],[(152,Za1.S)]⟩
theorem ZlO:Zcx.S.Ok Tryz.prog 121:=Zcx.ok Tryz.func121 (by kernel_rfl) ⟨Znb,trivial⟩
noncomputable def Zcm (x0:LL):Option (Bool):=Zcx.S.g [.l x0]
theorem Zic (x0:LL):Zcm x0 =
 ((Zfp x0).bind fun (r1:Int)=>
 some ((cop .geq r1 0))):=by kernel_rfl
noncomputable def Zwc:Fn:=⟨17,[5],[],[2],0,[],[],Tryz.f124,[.c (.int .i64),.c (.int .i64),.box hs0],[.c (.bool)],[]⟩
theorem Zyx:Zwc.S.Ok Tryz.prog 124:=Zwc.ok Tryz.func124 (by kernel_rfl) trivial
noncomputable def Zwp (x0 x1 x2 x3 x4 x5 x6 x7 x8 x9 x10 x11 x12:Int) (x13:Bool) (x14 x15 x16 x17 x18 x19 x20 x21 x22 x23 x24 x25 x26 x27 x28 x29 x30 x31 x32 x33:Int) (x34:LL) (x35 x36 x37 x38 x39 x40:Int) (x41:Bool) (x42 x43 x44 x45:LL) (x46 x47:Int) (x48 x49 x50 x51 x52 x53 x54 x55:LL) (x56 x57:Int) (x58 x59 x60 x61 x62 x63 x64 x65:LL) (x66:Bool) (x67:Int) (x68 x69 x70 x71 x72 x73 x74 x75:LL):Option (Qt1):=Zwc.S.g [.i x0,.i x1,.i x2,.i x3,.i x4,.i x5,.i x6,.i x7,.i x8,.i x9,.i x10,.i x11,.i x12,.b x13,.i x14,.i x15,.i x16,.i x17,.i x18,.i x19,.i x20,.i x21,.i x22,.i x23,.i x24,.i x25,.i x26,.i x27,.i x28,.i x29,.i x30,.i x31,.i x32,.i x33,.l x34,.i x35,.i x36,.i x37,.i x38,.i x39,.i x40,.b x41,.l x42,.l x43,.l x44,.l x45,.i x46,.i x47,.l x48,.l x49,.l x50,.l x51,.l x52,.l x53,.l x54,.l x55,.i x56,.i x57,.l x58,.l x59,.l x60,.l x61,.l x62,.l x63,.l x64,.l x65,.b x66,.i x67,.l x68,.l x69,.l x70,.l x71,.l x72,.l x73,.l x74,.l x75]
theorem ZqH (x0 x1 x2 x3 x4 x5 x6 x7 x8 x9 x10 x11 x12:Int) (x13:Bool) (x14 x15 x16 x17 x18 x19 x20 x21 x22 x23 x24 x25 x26 x27 x28 x29 x30 x31 x32 x33:Int) (x34:LL) (x35 x36 x37 x38 x39 x40:Int) (x41:Bool) (x42 x43 x44 x45:LL) (x46 x47:Int) (x48 x49 x50 x51 x52 x53 x54 x55:LL) (x56 x57:Int) (x58 x59 x60 x61 x62 x63 x64 x65:LL) (x66:Bool) (x67:Int) (x68 x69 x70 x71 x72 x73 x74 x75:LL):Zwp x0 x1 x2 x3 x4 x5 x6 x7 x8 x9 x10 x11 x12 x13 x14 x15 x16 x17 x18 x19 x20 x21 x22 x23 x24 x25 x26 x27 x28 x29 x30 x31 x32 x33 x34 x35 x36 x37 x38 x39 x40 x41 x42 x43 x44 x45 x46 x47 x48 x49 x50 x51 x52 x53 x54 x55 x56 x57 x58 x59 x60 x61 x62 x63 x64 x65 x66 x67 x68 x69 x70 x71 x72 x73 x74 x75 =
 (Zl x44 x0 [.int .i64] fun (r76:Int)=>
 Zl x44 x1 [.int .i64] fun (r77:Int)=>
 some ((cop .lss r76 r77),x2,x3,x4,x5,x6,x7,x8,x9,x10,x11,x12,x13,x14,x15,x16,x17,x18,x19,x20,x21,x22,x23,x24,x25,x26,x27,x28,x29,x30,x31,x32,x33,x34,x35,x36,x37,x38,x39,x40,x41,x42,x43,x44,x45,x46,x47,x48,x49,x50,x51,x52,x53,x54,x55,x56,x57,x58,x59,x60,x61,x62,x63,x64,x65,x66,x67,x68,x69,x70,x71,x72,x73,x74,x75)):=by kernel_rfl
noncomputable def Zas:Fn:=⟨17,[4],[(2,[(0,.c (.int .i64)),(1,.clo 124 [17]),(5,.c (.int .i64)),(17,.gbox hs0)])],[],1,[],[],Tryz.f123,[.c (.int .i64),.clo 124 [17],.dead,.dead,.dead,.dead,.dead,.dead,.dead,.dead,.dead,.dead,.dead,.dead,.dead,.dead,.dead,.gbox hs0],[.c (.bool)],[(124,Zwc.S)]⟩
theorem Zmr:Zas.S.Ok Tryz.prog 123:=Zas.ok Tryz.func123 (by kernel_rfl) ⟨Zyx,trivial⟩
noncomputable def Zcg (x0 x1 x2 x3 x4 x5 x6 x7 x8 x9 x10 x11:Int) (x12:Bool) (x13 x14 x15 x16 x17 x18 x19 x20 x21 x22 x23 x24 x25 x26 x27 x28 x29 x30 x31 x32:Int) (x33:LL) (x34 x35 x36 x37 x38 x39:Int) (x40:Bool) (x41 x42 x43 x44:LL) (x45 x46:Int) (x47 x48 x49 x50 x51 x52 x53 x54:LL) (x55 x56:Int) (x57 x58 x59 x60 x61 x62 x63 x64:LL) (x65:Bool) (x66:Int) (x67 x68 x69 x70 x71 x72 x73 x74:LL):Option (Qt1):=Zas.S.g [.i x0,.i x1,.i x2,.i x3,.i x4,.i x5,.i x6,.i x7,.i x8,.i x9,.i x10,.i x11,.b x12,.i x13,.i x14,.i x15,.i x16,.i x17,.i x18,.i x19,.i x20,.i x21,.i x22,.i x23,.i x24,.i x25,.i x26,.i x27,.i x28,.i x29,.i x30,.i x31,.i x32,.l x33,.i x34,.i x35,.i x36,.i x37,.i x38,.i x39,.b x40,.l x41,.l x42,.l x43,.l x44,.i x45,.i x46,.l x47,.l x48,.l x49,.l x50,.l x51,.l x52,.l x53,.l x54,.i x55,.i x56,.l x57,.l x58,.l x59,.l x60,.l x61,.l x62,.l x63,.l x64,.b x65,.i x66,.l x67,.l x68,.l x69,.l x70,.l x71,.l x72,.l x73,.l x74]
noncomputable def Wd (k:Nat) (x0 x1 x2 x3 x4 x5 x6 x7 x8 x9 x10 x11 x12:Int) (x13:Bool) (x14 x15 x16 x17 x18 x19 x20 x21 x22 x23 x24 x25 x26 x27 x28 x29 x30 x31 x32 x33:Int) (x34:LL) (x35 x36 x37 x38 x39 x40:Int) (x41:Bool) (x42 x43 x44 x45:LL) (x46 x47:Int) (x48 x49 x50 x51 x52 x53 x54 x55:LL) (x56 x57:Int) (x58 x59 x60 x61 x62 x63 x64 x65:LL) (x66:Bool) (x67:Int) (x68 x69 x70 x71 x72 x73 x74 x75:LL):Option (Qt1):=Zas.lp [0] 0 r0 k [.i x0,.i x1,.i x2,.i x3,.i x4,.i x5,.i x6,.i x7,.i x8,.i x9,.i x10,.i x11,.i x12,.b x13,.i x14,.i x15,.i x16,.i x17,.i x18,.i x19,.i x20,.i x21,.i x22,.i x23,.i x24,.i x25,.i x26,.i x27,.i x28,.i x29,.i x30,.i x31,.i x32,.i x33,.l x34,.i x35,.i x36,.i x37,.i x38,.i x39,.i x40,.b x41,.l x42,.l x43,.l x44,.l x45,.i x46,.i x47,.l x48,.l x49,.l x50,.l x51,.l x52,.l x53,.l x54,.l x55,.i x56,.i x57,.l x58,.l x59,.l x60,.l x61,.l x62,.l x63,.l x64,.l x65,.b x66,.i x67,.l x68,.l x69,.l x70,.l x71,.l x72,.l x73,.l x74,.l x75]
theorem ZaB (k:Nat) (x0 x1 x2 x3 x4 x5 x6 x7 x8 x9 x10 x11 x12:Int) (x13:Bool) (x14 x15 x16 x17 x18 x19 x20 x21 x22 x23 x24 x25 x26 x27 x28 x29 x30 x31 x32 x33:Int) (x34:LL) (x35 x36 x37 x38 x39 x40:Int) (x41:Bool) (x42 x43 x44 x45:LL) (x46 x47:Int) (x48 x49 x50 x51 x52 x53 x54 x55:LL) (x56 x57:Int) (x58 x59 x60 x61 x62 x63 x64 x65:LL) (x66:Bool) (x67:Int) (x68 x69 x70 x71 x72 x73 x74 x75:LL):Wd (k+1) x0 x1 x2 x3 x4 x5 x6 x7 x8 x9 x10 x11 x12 x13 x14 x15 x16 x17 x18 x19 x20 x21 x22 x23 x24 x25 x26 x27 x28 x29 x30 x31 x32 x33 x34 x35 x36 x37 x38 x39 x40 x41 x42 x43 x44 x45 x46 x47 x48 x49 x50 x51 x52 x53 x54 x55 x56 x57 x58 x59 x60 x61 x62 x63 x64 x65 x66 x67 x68 x69 x70 x71 x72 x73 x74 x75 =
 (if (cop .lss x1 x0)=true then
 (Zwp (iop .sub .i64 x1 1) x1 x2 x3 x4 x5 x6 x7 x8 x9 x10 x11 x12 x13 x14 x15 x16 x17 x18 x19 x20 x21 x22 x23 x24 x25 x26 x27 x28 x29 x30 x31 x32 x33 x34 x35 x36 x37 x38 x39 x40 x41 x42 x43 x44 x45 x46 x47 x48 x49 x50 x51 x52 x53 x54 x55 x56 x57 x58 x59 x60 x61 x62 x63 x64 x65 x66 x67 x68 x69 x70 x71 x72 x73 x74 x75).bind fun (r76:Qt1)=>
 if (!r76.1)=true then
 some (false,r76.2.1,r76.2.2.1,r76.2.2.2.1,r76.2.2.2.2.1,r76.2.2.2.2.2.1,r76.2.2.2.2.2.2.1,r76.2.2.2.2.2.2.2.1,r76.2.2.2.2.2.2.2.2.1,r76.2.2.2.2.2.2.2.2.2.1,r76.2.2.2.2.2.2.2.2.2.2.1,r76.2.2.2.2.2.2.2.2.2.2.2.1,(d4 (d8 r76)).1,(d4 (d8 r76)).2.1,(d2 (d4 (d8 r76))).1,(d2 (d4 (d8 r76))).2.1,(d16 r76).1,(d16 r76).2.1,(d2 (d16 r76)).1,(d2 (d16 r76)).2.1,(d4 (d16 r76)).1,(d4 (d16 r76)).2.1,(d2 (d4 (d16 r76))).1,(d2 (d4 (d16 r76))).2.1,(d8 (d16 r76)).1,(d8 (d16 r76)).2.1,(d2 (d8 (d16 r76))).1,(d2 (d8 (d16 r76))).2.1,(d4 (d8 (d16 r76))).1,(d4 (d8 (d16 r76))).2.1,(d2 (d4 (d8 (d16 r76)))).1,(d2 (d4 (d8 (d16 r76)))).2.1,(d16 (d16 r76)).1,(d16 (d16 r76)).2.1,(d2 (d16 (d16 r76))).1,(d2 (d16 (d16 r76))).2.1,(d4 (d16 (d16 r76))).1,(d4 (d16 (d16 r76))).2.1,(d2 (d4 (d16 (d16 r76)))).1,(d2 (d4 (d16 (d16 r76)))).2.1,(d8 (d16 (d16 r76))).1,(d8 (d16 (d16 r76))).2.1,(d2 (d8 (d16 (d16 r76)))).1,(d2 (d8 (d16 (d16 r76)))).2.1,(d4 (d8 (d16 (d16 r76)))).1,(d4 (d8 (d16 (d16 r76)))).2.1,(d2 (d4 (d8 (d16 (d16 r76))))).1,(d2 (d4 (d8 (d16 (d16 r76))))).2.1,(d16 (d16 (d16 r76))).1,(d16 (d16 (d16 r76))).2.1,(d2 (d16 (d16 (d16 r76)))).1,(d2 (d16 (d16 (d16 r76)))).2.1,(d4 (d16 (d16 (d16 r76)))).1,(d4 (d16 (d16 (d16 r76)))).2.1,(d2 (d4 (d16 (d16 (d16 r76))))).1,(d2 (d4 (d16 (d16 (d16 r76))))).2.1,(d8 (d16 (d16 (d16 r76)))).1,(d8 (d16 (d16 (d16 r76)))).2.1,(d2 (d8 (d16 (d16 (d16 r76))))).1,(d2 (d8 (d16 (d16 (d16 r76))))).2.1,(d4 (d8 (d16 (d16 (d16 r76))))).1,(d4 (d8 (d16 (d16 (d16 r76))))).2.1,(d2 (d4 (d8 (d16 (d16 (d16 r76)))))).1,(d2 (d4 (d8 (d16 (d16 (d16 r76)))))).2.1,(d16 (d16 (d16 (d16 r76)))).1,(d16 (d16 (d16 (d16 r76)))).2.1,(d2 (d16 (d16 (d16 (d16 r76))))).1,(d2 (d16 (d16 (d16 (d16 r76))))).2.1,(d4 (d16 (d16 (d16 (d16 r76))))).1,(d4 (d16 (d16 (d16 (d16 r76))))).2.1,(d2 (d4 (d16 (d16 (d16 (d16 r76)))))).1,(d2 (d4 (d16 (d16 (d16 (d16 r76)))))).2.1,(d8 (d16 (d16 (d16 (d16 r76))))).1,(d8 (d16 (d16 (d16 (d16 r76))))).2.1,(d2 (d8 (d16 (d16 (d16 (d16 r76)))))))
 else
 Wd k x0 (iop .add .i64 x1 1) r76.2.1 r76.2.2.1 r76.2.2.2.1 r76.2.2.2.2.1 r76.2.2.2.2.2.1 r76.2.2.2.2.2.2.1 r76.2.2.2.2.2.2.2.1 r76.2.2.2.2.2.2.2.2.1 r76.2.2.2.2.2.2.2.2.2.1 r76.2.2.2.2.2.2.2.2.2.2.1 r76.2.2.2.2.2.2.2.2.2.2.2.1 (d4 (d8 r76)).1 (d4 (d8 r76)).2.1 (d2 (d4 (d8 r76))).1 (d2 (d4 (d8 r76))).2.1 (d16 r76).1 (d16 r76).2.1 (d2 (d16 r76)).1 (d2 (d16 r76)).2.1 (d4 (d16 r76)).1 (d4 (d16 r76)).2.1 (d2 (d4 (d16 r76))).1 (d2 (d4 (d16 r76))).2.1 (d8 (d16 r76)).1 (d8 (d16 r76)).2.1 (d2 (d8 (d16 r76))).1 (d2 (d8 (d16 r76))).2.1 (d4 (d8 (d16 r76))).1 (d4 (d8 (d16 r76))).2.1 (d2 (d4 (d8 (d16 r76)))).1 (d2 (d4 (d8 (d16 r76)))).2.1 (d16 (d16 r76)).1 (d16 (d16 r76)).2.1 (d2 (d16 (d16 r76))).1 (d2 (d16 (d16 r76))).2.1 (d4 (d16 (d16 r76))).1 (d4 (d16 (d16 r76))).2.1 (d2 (d4 (d16 (d16 r76)))).1 (d2 (d4 (d16 (d16 r76)))).2.1 (d8 (d16 (d16 r76))).1 (d8 (d16 (d16 r76))).2.1 (d2 (d8 (d16 (d16 r76)))).1 (d2 (d8 (d16 (d16 r76)))).2.1 (d4 (d8 (d16 (d16 r76)))).1 (d4 (d8 (d16 (d16 r76)))).2.1 (d2 (d4 (d8 (d16 (d16 r76))))).1 (d2 (d4 (d8 (d16 (d16 r76))))).2.1 (d16 (d16 (d16 r76))).1 (d16 (d16 (d16 r76))).2.1 (d2 (d16 (d16 (d16 r76)))).1 (d2 (d16 (d16 (d16 r76)))).2.1 (d4 (d16 (d16 (d16 r76)))).1 (d4 (d16 (d16 (d16 r76)))).2.1 (d2 (d4 (d16 (d16 (d16 r76))))).1 (d2 (d4 (d16 (d16 (d16 r76))))).2.1 (d8 (d16 (d16 (d16 r76)))).1 (d8 (d16 (d16 (d16 r76)))).2.1 (d2 (d8 (d16 (d16 (d16 r76))))).1 (d2 (d8 (d16 (d16 (d16 r76))))).2.1 (d4 (d8 (d16 (d16 (d16 r76))))).1 (d4 (d8 (d16 (d16 (d16 r76))))).2.1 (d2 (d4 (d8 (d16 (d16 (d16 r76)))))).1 (d2 (d4 (d8 (d16 (d16 (d16 r76)))))).2.1 (d16 (d16 (d16 (d16 r76)))).1 (d16 (d16 (d16 (d16 r76)))).2.1 (d2 (d16 (d16 (d16 (d16 r76))))).1 (d2 (d16 (d16 (d16 (d16 r76))))).2.1 (d4 (d16 (d16 (d16 (d16 r76))))).1 (d4 (d16 (d16 (d16 (d16 r76))))).2.1 (d2 (d4 (d16 (d16 (d16 (d16 r76)))))).1 (d2 (d4 (d16 (d16 (d16 (d16 r76)))))).2.1 (d8 (d16 (d16 (d16 (d16 r76))))).1 (d8 (d16 (d16 (d16 (d16 r76))))).2.1 (d2 (d8 (d16 (d16 (d16 (d16 r76))))))
 else
 some (true,x2,x3,x4,x5,x6,x7,x8,x9,x10,x11,x12,x13,x14,x15,x16,x17,x18,x19,x20,x21,x22,x23,x24,x25,x26,x27,x28,x29,x30,x31,x32,x33,x34,x35,x36,x37,x38,x39,x40,x41,x42,x43,x44,x45,x46,x47,x48,x49,x50,x51,x52,x53,x54,x55,x56,x57,x58,x59,x60,x61,x62,x63,x64,x65,x66,x67,x68,x69,x70,x71,x72,x73,x74,x75)):=by kernel_rfl
theorem ZiQ (x0 x1 x2 x3 x4 x5 x6 x7 x8 x9 x10 x11:Int) (x12:Bool) (x13 x14 x15 x16 x17 x18 x19 x20 x21 x22 x23 x24 x25 x26 x27 x28 x29 x30 x31 x32:Int) (x33:LL) (x34 x35 x36 x37 x38 x39:Int) (x40:Bool) (x41 x42 x43 x44:LL) (x45 x46:Int) (x47 x48 x49 x50 x51 x52 x53 x54:LL) (x55 x56:Int) (x57 x58 x59 x60 x61 x62 x63 x64:LL) (x65:Bool) (x66:Int) (x67 x68 x69 x70 x71 x72 x73 x74:LL):Zcg x0 x1 x2 x3 x4 x5 x6 x7 x8 x9 x10 x11 x12 x13 x14 x15 x16 x17 x18 x19 x20 x21 x22 x23 x24 x25 x26 x27 x28 x29 x30 x31 x32 x33 x34 x35 x36 x37 x38 x39 x40 x41 x42 x43 x44 x45 x46 x47 x48 x49 x50 x51 x52 x53 x54 x55 x56 x57 x58 x59 x60 x61 x62 x63 x64 x65 x66 x67 x68 x69 x70 x71 x72 x73 x74 =
 (Wd Zx x0 1 x1 x2 x3 x4 x5 x6 x7 x8 x9 x10 x11 x12 x13 x14 x15 x16 x17 x18 x19 x20 x21 x22 x23 x24 x25 x26 x27 x28 x29 x30 x31 x32 x33 x34 x35 x36 x37 x38 x39 x40 x41 x42 x43 x44 x45 x46 x47 x48 x49 x50 x51 x52 x53 x54 x55 x56 x57 x58 x59 x60 x61 x62 x63 x64 x65 x66 x67 x68 x69 x70 x71 x72 x73 x74):=by kernel_rfl
noncomputable def ZvG:Fn:=⟨13,[2],[],[],0,[],[],Tryz.f129,[.agg [.int .i64,.int .i64]],[.c (.bool)],[(110,Zqj.S),(67,F67.S)]⟩
theorem Zwx:ZvG.S.Ok Tryz.prog 129:=ZvG.ok Tryz.func129 (by kernel_rfl) ⟨ZnQ,⟨Zq9,trivial⟩⟩
noncomputable def Zyd (x0 x1:Int):Option (Bool):=ZvG.S.g [.i x0,.i x1]
theorem ZpT (x0 x1:Int):Zyd x0 x1 =
 ((Zr4 x0).bind fun (r2:Bool)=>
 if (!r2)=true then
 some (true)
 else
 (g67 x1).bind fun (r3:Bool)=>
 some ((!r3))):=by kernel_rfl
noncomputable def ZaE:Fn:=⟨19,[4],[(2,[(0,.c (.slice 2)),(1,.clo 129 []),(7,.c (.int .i64)),(8,.c (.int .i64))])],[],0,[],[],Tryz.f161,[.c (.slice 2),.clo 129 []],[.c (.int .i64)],[(129,ZvG.S)]⟩
theorem Zmp:ZaE.S.Ok Tryz.prog 161:=ZaE.ok Tryz.func161 (by kernel_rfl) ⟨Zwx,trivial⟩
noncomputable def Zfo (x0:LL):Option (Int):=ZaE.S.g [.l x0]
noncomputable def Ko (k:Nat) (x0:LL) (x1 x2:Int):Option (Int):=ZaE.lp [0] 0 r0 k [.l x0,.i x1,.i x2]
theorem Zbb (k:Nat) (x0:LL) (x1 x2:Int):Ko (k+1) x0 x1 x2 =
 (if (cop .lss x2 x1)=true then
 Zl x0 x2 [.int .i64,.int .i64] fun (r3:Int×Int)=>
 (Zyd r3.1 r3.2).bind fun (r5:Bool)=>
 if r5=true then
 some (x2)
 else
 Ko k x0 x1 (iop .add .i64 x2 1)
 else
 some ((-1))):=by kernel_rfl
theorem ZhI (x0:LL):Zfo x0 =
 (Ko Zx x0 (List.length x0:Int) 0):=by kernel_rfl
noncomputable def Zb9:Fn:=⟨9,[4],[],[],0,[],[],Tryz.f128,[.c (.slice 2),.clo 129 []],[.c (.bool)],[(161,ZaE.S)]⟩
theorem ZlD:Zb9.S.Ok Tryz.prog 128:=Zb9.ok Tryz.func128 (by kernel_rfl) ⟨Zmp,trivial⟩
noncomputable def Zcv (x0:LL):Option (Bool):=Zb9.S.g [.l x0]
theorem Ziw (x0:LL):Zcv x0 =
 ((Zfo x0).bind fun (r1:Int)=>
 some ((cop .geq r1 0))):=by kernel_rfl
noncomputable def F68:Fn:=⟨114,[4],[],[],0,[],[],Tryz.f68,[.agg hs0,.c (.int .i64)],[.c (.bool)],[(110,Zqj.S),(111,Zuk.S),(112,Zqm.S),(113,Ztu.S),(114,Zcb.S),(117,Zsq.S),(118,Zca.S),(66,F66.S),(121,Zcx.S),(123,Zas.S),(125,ZvI.S),(126,Zr1.S),(127,Ztd.S),(128,Zb9.S)]⟩
theorem ZAn:F68.S.Ok Tryz.prog 68:=F68.ok Tryz.func68 (by kernel_rfl) ⟨ZnQ,⟨Zt7,⟨ZoN,⟨Zve,⟨Zl2,⟨Zt9,⟨Znp,⟨Zwu,⟨ZlO,⟨Zmr,⟨Zyk,⟨Zto,⟨Ztz,⟨ZlD,trivial⟩⟩⟩⟩⟩⟩⟩⟩⟩⟩⟩⟩⟩⟩
noncomputable def g68 (x0 x1 x2 x3 x4 x5 x6 x7 x8 x9 x10:Int) (x11:Bool) (x12 x13 x14 x15 x16 x17 x18 x19 x20 x21 x22 x23 x24 x25 x26 x27 x28 x29 x30 x31:Int) (x32:LL) (x33 x34 x35 x36 x37 x38:Int) (x39:Bool) (x40 x41 x42 x43:LL) (x44 x45:Int) (x46 x47 x48 x49 x50 x51 x52 x53:LL) (x54 x55:Int) (x56 x57 x58 x59 x60 x61 x62 x63:LL) (x64:Bool) (x65:Int) (x66 x67 x68 x69 x70 x71 x72 x73:LL) (x74:Int):Option (Bool):=F68.S.g [.i x0,.i x1,.i x2,.i x3,.i x4,.i x5,.i x6,.i x7,.i x8,.i x9,.i x10,.b x11,.i x12,.i x13,.i x14,.i x15,.i x16,.i x17,.i x18,.i x19,.i x20,.i x21,.i x22,.i x23,.i x24,.i x25,.i x26,.i x27,.i x28,.i x29,.i x30,.i x31,.l x32,.i x33,.i x34,.i x35,.i x36,.i x37,.i x38,.b x39,.l x40,.l x41,.l x42,.l x43,.i x44,.i x45,.l x46,.l x47,.l x48,.l x49,.l x50,.l x51,.l x52,.l x53,.i x54,.i x55,.l x56,.l x57,.l x58,.l x59,.l x60,.l x61,.l x62,.l x63,.b x64,.i x65,.l x66,.l x67,.l x68,.l x69,.l x70,.l x71,.l x72,.l x73,.i x74]
theorem KI (x0 x1 x2 x3 x4 x5 x6 x7 x8 x9 x10:Int) (x11:Bool) (x12 x13 x14 x15 x16 x17 x18 x19 x20 x21 x22 x23 x24 x25 x26 x27 x28 x29 x30 x31:Int) (x32:LL) (x33 x34 x35 x36 x37 x38:Int) (x39:Bool) (x40 x41 x42 x43:LL) (x44 x45:Int) (x46 x47 x48 x49 x50 x51 x52 x53:LL) (x54 x55:Int) (x56 x57 x58 x59 x60 x61 x62 x63:LL) (x64:Bool) (x65:Int) (x66 x67 x68 x69 x70 x71 x72 x73:LL) (x74:Int):g68 x0 x1 x2 x3 x4 x5 x6 x7 x8 x9 x10 x11 x12 x13 x14 x15 x16 x17 x18 x19 x20 x21 x22 x23 x24 x25 x26 x27 x28 x29 x30 x31 x32 x33 x34 x35 x36 x37 x38 x39 x40 x41 x42 x43 x44 x45 x46 x47 x48 x49 x50 x51 x52 x53 x54 x55 x56 x57 x58 x59 x60 x61 x62 x63 x64 x65 x66 x67 x68 x69 x70 x71 x72 x73 x74 =
 (if (cop .eql x74 0)=true then
 (Zr4 x5).bind fun (r75:Bool)=>
 some (r75)
 else
 if (cop .eql x74 1)=true then
 (ZvA x12 x13 x14 x15 x16 x17 x18 x19 x20 x21 x22 x23 x24 x25 x26 x27 x28 x29 x30 x31 x32 x33 x34 x35 x36 x37 x38 x39).bind fun (r75:Bool)=>
 some (r75)
 else
 if (cop .eql x74 2)=true then
 (Zsc x7 x8 x9).bind fun (r75:Bool)=>
 some (r75)
 else
 if (cop .eql x74 3)=true then
 (Zwb x10).bind fun (r75:Bool)=>
 some (r75)
 else
 if (cop .eql x74 5)=true then
 if (cop .gtr (List.length x41:Int) 8)=true then
 some (false)
 else
 if (cop .eql x0 4)=true then
 if (cop .neq (List.length x41:Int) 1)=true then
 some (false)
 else
 (Wj x41).bind fun (r75:Bool)=>
 some ((!r75))
 else
 (Wj x41).bind fun (r75:Bool)=>
 some ((!r75))
 else
 if (cop .eql x74 6)=true then
 (ZvK x6).bind fun (r75:Bool)=>
 some (r75)
 else
 if (cop .eql x74 7)=true then
 if (cop .leq (List.length x40:Int) 64)=true then
 (Zct x40).bind fun (r75:Bool)=>
 some ((!r75))
 else
 some (false)
 else
 if (cop .eql x74 8)=true then
 (g66 x4).bind fun (r75:Bool)=>
 some (r75)
 else
 if (cop .eql x74 9)=true then
 (Zcm x42).bind fun (r75:Bool)=>
 if (!r75)=true then
 (Zcg (List.length x42:Int) x0 x1 x2 x3 x4 x5 x6 x7 x8 x9 x10 x11 x12 x13 x14 x15 x16 x17 x18 x19 x20 x21 x22 x23 x24 x25 x26 x27 x28 x29 x30 x31 x32 x33 x34 x35 x36 x37 x38 x39 x40 x41 x42 x43 x44 x45 x46 x47 x48 x49 x50 x51 x52 x53 x54 x55 x56 x57 x58 x59 x60 x61 x62 x63 x64 x65 x66 x67 x68 x69 x70 x71 x72 x73).bind fun (r76:Qt1)=>
 some (r76.1)
 else
 some (false)
 else
 if (cop .eql x74 10)=true then
 (Zxq x54 x55 x56 x57 x58 x59 x60 x61 x62 x63 x64 x65 x66 x67 x68 x69 x70 x71 x72 x73).bind fun (r75:Bool)=>
 some (r75)
 else
 if (cop .eql x74 11)=true then
 (g66 x44).bind fun (r75:Bool)=>
 some (r75)
 else
 if (cop .eql x74 12)=true then
 (Zt8 x45 x46 x47).bind fun (r75:Bool)=>
 some (r75)
 else
 if (cop .eql x74 13)=true then
 (ZtG x48 x49 x50 x51 x52 x53).bind fun (r75:Bool)=>
 some (r75)
 else
 if (cop .eql x74 14)=true then
 if (cop .leq (List.length x43:Int) 16)=true then
 (Zcv x43).bind fun (r75:Bool)=>
 some ((!r75))
 else
 some (false)
 else
 some (true)):=by kernel_rfl
noncomputable def F69:Fn:=⟨85,[],[],[0],0,[],[],Tryz.f69,[.box hs0,.c (.int .i64)],[],[]⟩
theorem ZAr:F69.S.Ok Tryz.prog 69:=F69.ok Tryz.func69 (by kernel_rfl) trivial
noncomputable def g69 (x0 x1 x2 x3 x4 x5 x6 x7 x8 x9 x10:Int) (x11:Bool) (x12 x13 x14 x15 x16 x17 x18 x19 x20 x21 x22 x23 x24 x25 x26 x27 x28 x29 x30 x31:Int) (x32:LL) (x33 x34 x35 x36 x37 x38:Int) (x39:Bool) (x40 x41 x42 x43:LL) (x44 x45:Int) (x46 x47 x48 x49 x50 x51 x52 x53:LL) (x54 x55:Int) (x56 x57 x58 x59 x60 x61 x62 x63:LL) (x64:Bool) (x65:Int) (x66 x67 x68 x69 x70 x71 x72 x73:LL) (x74:Int):Option (Qt2):=F69.S.g [.i x0,.i x1,.i x2,.i x3,.i x4,.i x5,.i x6,.i x7,.i x8,.i x9,.i x10,.b x11,.i x12,.i x13,.i x14,.i x15,.i x16,.i x17,.i x18,.i x19,.i x20,.i x21,.i x22,.i x23,.i x24,.i x25,.i x26,.i x27,.i x28,.i x29,.i x30,.i x31,.l x32,.i x33,.i x34,.i x35,.i x36,.i x37,.i x38,.b x39,.l x40,.l x41,.l x42,.l x43,.i x44,.i x45,.l x46,.l x47,.l x48,.l x49,.l x50,.l x51,.l x52,.l x53,.i x54,.i x55,.l x56,.l x57,.l x58,.l x59,.l x60,.l x61,.l x62,.l x63,.b x64,.i x65,.l x66,.l x67,.l x68,.l x69,.l x70,.l x71,.l x72,.l x73,.i x74]
theorem KK (x0 x1 x2 x3 x4 x5 x6 x7 x8 x9 x10:Int) (x11:Bool) (x12 x13 x14 x15 x16 x17 x18 x19 x20 x21 x22 x23 x24 x25 x26 x27 x28 x29 x30 x31:Int) (x32:LL) (x33 x34 x35 x36 x37 x38:Int) (x39:Bool) (x40 x41 x42 x43:LL) (x44 x45:Int) (x46 x47 x48 x49 x50 x51 x52 x53:LL) (x54 x55:Int) (x56 x57 x58 x59 x60 x61 x62 x63:LL) (x64:Bool) (x65:Int) (x66 x67 x68 x69 x70 x71 x72 x73:LL) (x74:Int):g69 x0 x1 x2 x3 x4 x5 x6 x7 x8 x9 x10 x11 x12 x13 x14 x15 x16 x17 x18 x19 x20 x21 x22 x23 x24 x25 x26 x27 x28 x29 x30 x31 x32 x33 x34 x35 x36 x37 x38 x39 x40 x41 x42 x43 x44 x45 x46 x47 x48 x49 x50 x51 x52 x53 x54 x55 x56 x57 x58 x59 x60 x61 x62 x63 x64 x65 x66 x67 x68 x69 x70 x71 x72 x73 x74 =
 (if (cop .eql x74 0)=true then
 some (x0,x1,x2,x3,x4,0,x6,x7,x8,x9,x10,x11,x12,x13,x14,x15,x16,x17,x18,x19,x20,x21,x22,x23,x24,x25,x26,x27,x28,x29,x30,x31,x32,x33,x34,x35,x36,x37,x38,x39,x40,x41,x42,x43,x44,x45,x46,x47,x48,x49,x50,x51,x52,x53,x54,x55,x56,x57,x58,x59,x60,x61,x62,x63,x64,x65,x66,x67,x68,x69,x70,x71,x72,x73)
 else
 if (cop .eql x74 1)=true then
 some (x0,x1,x2,x3,x4,x5,x6,x7,x8,x9,x10,x11,0,0,0,0,0,0,0,0,0,0,0,0,0,0,0,0,0,0,0,0,E0,0,0,0,0,0,0,false,x40,x41,x42,x43,x44,x45,x46,x47,x48,x49,x50,x51,x52,x53,x54,x55,x56,x57,x58,x59,x60,x61,x62,x63,x64,x65,x66,x67,x68,x69,x70,x71,x72,x73)
 else
 if (cop .eql x74 2)=true then
 some (x0,x1,x2,x3,x4,x5,x6,0,0,0,x10,x11,x12,x13,x14,x15,x16,x17,x18,x19,x20,x21,x22,x23,x24,x25,x26,x27,x28,x29,x30,x31,x32,x33,x34,x35,x36,x37,x38,x39,x40,x41,x42,x43,x44,x45,x46,x47,x48,x49,x50,x51,x52,x53,x54,x55,x56,x57,x58,x59,x60,x61,x62,x63,x64,x65,x66,x67,x68,x69,x70,x71,x72,x73)
 else
 if (cop .eql x74 3)=true then
 some (x0,x1,x2,x3,x4,x5,x6,x7,x8,x9,0,x11,x12,x13,x14,x15,x16,x17,x18,x19,x20,x21,x22,x23,x24,x25,x26,x27,x28,x29,x30,x31,x32,x33,x34,x35,x36,x37,x38,x39,x40,x41,x42,x43,x44,x45,x46,x47,x48,x49,x50,x51,x52,x53,x54,x55,x56,x57,x58,x59,x60,x61,x62,x63,x64,x65,x66,x67,x68,x69,x70,x71,x72,x73)
 else
 if (cop .eql x74 4)=true then
 some (x0,x1,x2,x3,x4,x5,x6,x7,x8,x9,x10,false,x12,x13,x14,x15,x16,x17,x18,x19,x20,x21,x22,x23,x24,x25,x26,x27,x28,x29,x30,x31,x32,x33,x34,x35,x36,x37,x38,x39,x40,x41,x42,x43,x44,x45,x46,x47,x48,x49,x50,x51,x52,x53,x54,x55,x56,x57,x58,x59,x60,x61,x62,x63,x64,x65,x66,x67,x68,x69,x70,x71,x72,x73)
 else
 if (cop .eql x74 5)=true then
 some (x0,x1,x2,x3,x4,x5,x6,x7,x8,x9,x10,x11,x12,x13,x14,x15,x16,x17,x18,x19,x20,x21,x22,x23,x24,x25,x26,x27,x28,x29,x30,x31,x32,x33,x34,x35,x36,x37,x38,x39,x40,E0,x42,x43,x44,x45,x46,x47,x48,x49,x50,x51,x52,x53,x54,x55,x56,x57,x58,x59,x60,x61,x62,x63,x64,x65,x66,x67,x68,x69,x70,x71,x72,x73)
 else
 if (cop .eql x74 6)=true then
 some (x0,x1,x2,x3,x4,x5,0,x7,x8,x9,x10,x11,x12,x13,x14,x15,x16,x17,x18,x19,x20,x21,x22,x23,x24,x25,x26,x27,x28,x29,x30,x31,x32,x33,x34,x35,x36,x37,x38,x39,x40,x41,x42,x43,x44,x45,x46,x47,x48,x49,x50,x51,x52,x53,x54,x55,x56,x57,x58,x59,x60,x61,x62,x63,x64,x65,x66,x67,x68,x69,x70,x71,x72,x73)
 else
 if (cop .eql x74 7)=true then
 some (x0,x1,x2,x3,x4,x5,x6,x7,x8,x9,x10,x11,x12,x13,x14,x15,x16,x17,x18,x19,x20,x21,x22,x23,x24,x25,x26,x27,x28,x29,x30,x31,x32,x33,x34,x35,x36,x37,x38,x39,E0,x41,x42,x43,x44,x45,x46,x47,x48,x49,x50,x51,x52,x53,x54,x55,x56,x57,x58,x59,x60,x61,x62,x63,x64,x65,x66,x67,x68,x69,x70,x71,x72,x73)
 else
 if (cop .eql x74 8)=true then
 some (x0,x1,x2,x3,0,x5,x6,x7,x8,x9,x10,x11,x12,x13,x14,x15,x16,x17,x18,x19,x20,x21,x22,x23,x24,x25,x26,x27,x28,x29,x30,x31,x32,x33,x34,x35,x36,x37,x38,x39,x40,x41,x42,x43,x44,x45,x46,x47,x48,x49,x50,x51,x52,x53,x54,x55,x56,x57,x58,x59,x60,x61,x62,x63,x64,x65,x66,x67,x68,x69,x70,x71,x72,x73)
 else
 if (cop .eql x74 9)=true then
 some (x0,x1,x2,x3,x4,x5,x6,x7,x8,x9,x10,x11,x12,x13,x14,x15,x16,x17,x18,x19,x20,x21,x22,x23,x24,x25,x26,x27,x28,x29,x30,x31,x32,x33,x34,x35,x36,x37,x38,x39,x40,x41,E0,x43,x44,x45,x46,x47,x48,x49,x50,x51,x52,x53,x54,x55,x56,x57,x58,x59,x60,x61,x62,x63,x64,x65,x66,x67,x68,x69,x70,x71,x72,x73)
 else
 if (cop .eql x74 10)=true then
 some (x0,x1,x2,x3,x4,x5,x6,x7,x8,x9,x10,x11,x12,x13,x14,x15,x16,x17,x18,x19,x20,x21,x22,x23,x24,x25,x26,x27,x28,x29,x30,x31,x32,x33,x34,x35,x36,x37,x38,x39,x40,x41,x42,x43,x44,x45,x46,x47,x48,x49,x50,x51,x52,x53,0,0,E0,E0,E0,E0,E0,E0,E0,E0,false,0,E0,E0,E0,E0,E0,E0,E0,E0)
 else
 if (cop .eql x74 11)=true then
 some (x0,x1,x2,x3,x4,x5,x6,x7,x8,x9,x10,x11,x12,x13,x14,x15,x16,x17,x18,x19,x20,x21,x22,x23,x24,x25,x26,x27,x28,x29,x30,x31,x32,x33,x34,x35,x36,x37,x38,x39,x40,x41,x42,x43,0,x45,x46,x47,x48,x49,x50,x51,x52,x53,x54,x55,x56,x57,x58,x59,x60,x61,x62,x63,x64,x65,x66,x67,x68,x69,x70,x71,x72,x73)
 else
 if (cop .eql x74 12)=true then
 some (x0,x1,x2,x3,x4,x5,x6,x7,x8,x9,x10,x11,x12,x13,x14,x15,x16,x17,x18,x19,x20,x21,x22,x23,x24,x25,x26,x27,x28,x29,x30,x31,x32,x33,x34,x35,x36,x37,x38,x39,x40,x41,x42,x43,x44,0,E0,E0,x48,x49,x50,x51,x52,x53,x54,x55,x56,x57,x58,x59,x60,x61,x62,x63,x64,x65,x66,x67,x68,x69,x70,x71,x72,x73)
 else
 if (cop .eql x74 13)=true then
 some (x0,x1,x2,x3,x4,x5,x6,x7,x8,x9,x10,x11,x12,x13,x14,x15,x16,x17,x18,x19,x20,x21,x22,x23,x24,x25,x26,x27,x28,x29,x30,x31,x32,x33,x34,x35,x36,x37,x38,x39,x40,x41,x42,x43,x44,x45,x46,x47,E0,E0,E0,E0,E0,E0,x54,x55,x56,x57,x58,x59,x60,x61,x62,x63,x64,x65,x66,x67,x68,x69,x70,x71,x72,x73)
 else
 if (cop .eql x74 14)=true then
 some (x0,x1,x2,x3,x4,x5,x6,x7,x8,x9,x10,x11,x12,x13,x14,x15,x16,x17,x18,x19,x20,x21,x22,x23,x24,x25,x26,x27,x28,x29,x30,x31,x32,x33,x34,x35,x36,x37,x38,x39,x40,x41,x42,E0,x44,x45,x46,x47,x48,x49,x50,x51,x52,x53,x54,x55,x56,x57,x58,x59,x60,x61,x62,x63,x64,x65,x66,x67,x68,x69,x70,x71,x72,x73)
 else
 some (x0,x1,x2,x3,x4,x5,x6,x7,x8,x9,x10,x11,x12,x13,x14,x15,x16,x17,x18,x19,x20,x21,x22,x23,x24,x25,x26,x27,x28,x29,x30,x31,x32,x33,x34,x35,x36,x37,x38,x39,x40,x41,x42,x43,x44,x45,x46,x47,x48,x49,x50,x51,x52,x53,x54,x55,x56,x57,x58,x59,x60,x61,x62,x63,x64,x65,x66,x67,x68,x69,x70,x71,x72,x73)):=by kernel_rfl
noncomputable def Zvp:Fn:=⟨29,[2],[],[],0,[],[],Tryz.f130,[.agg hs3],[.c (.bool)],[(148,Zsi.S)]⟩
theorem Zxt:Zvp.S.Ok Tryz.prog 130:=Zvp.ok Tryz.func130 (by kernel_rfl) ⟨ZrA,trivial⟩
noncomputable def ZyC (x0 x1 x2 x3 x4 x5 x6 x7 x8 x9 x10 x11 x12 x13 x14 x15 x16 x17 x18 x19:Int) (x20:LL) (x21 x22 x23 x24 x25 x26:Int) (x27:Bool):Option (Bool):=Zvp.S.g [.i x0,.i x1,.i x2,.i x3,.i x4,.i x5,.i x6,.i x7,.i x8,.i x9,.i x10,.i x11,.i x12,.i x13,.i x14,.i x15,.i x16,.i x17,.i x18,.i x19,.l x20,.i x21,.i x22,.i x23,.i x24,.i x25,.i x26,.b x27]
theorem ZrK (x0 x1 x2 x3 x4 x5 x6 x7 x8 x9 x10 x11 x12 x13 x14 x15 x16 x17 x18 x19:Int) (x20:LL) (x21 x22 x23 x24 x25 x26:Int) (x27:Bool):ZyC x0 x1 x2 x3 x4 x5 x6 x7 x8 x9 x10 x11 x12 x13 x14 x15 x16 x17 x18 x19 x20 x21 x22 x23 x24 x25 x26 x27 =
 (if ((cop .eql x0 0)&&((cop .eql x1 0)&&((cop .eql x2 0)&&true)))=true then
 if ((cop .eql x3 0)&&((cop .eql x4 0)&&((cop .eql x5 0)&&((cop .eql x6 0)&&((cop .eql x7 0)&&((cop .eql x8 0)&&((cop .eql x9 0)&&((cop .eql x10 0)&&((cop .eql x11 0)&&((cop .eql x12 0)&&((cop .eql x13 0)&&((cop .eql x14 0)&&true))))))))))))=true then
 if (cop .eql x15 0)=true then
 if (cop .eql x16 0)=true then
 (ZrO x17 x18 x19 x20 x21 x22 x23 x24 x25 x26 x27 0 0 0 E0 0 0 0 0 0 0 false).bind fun (r28:Bool)=>
 some (r28)
 else
 some (false)
 else
 some (false)
 else
 some (false)
 else
 some (false)):=by kernel_rfl
noncomputable def ZuY:Fn:=⟨18,[2],[],[],0,[],[],Tryz.f131,[.agg [.int .i64,.slice 1,.slice 1]],[.c (.bool)],[]⟩
theorem ZtU:ZuY.S.Ok Tryz.prog 131:=ZuY.ok Tryz.func131 (by kernel_rfl) trivial
noncomputable def ZuF (x0:Int) (x1 x2:LL):Option (Bool):=ZuY.S.g [.i x0,.l x1,.l x2]
theorem Zqr (x0:Int) (x1 x2:LL):ZuF x0 x1 x2 =
 (if (cop .eql x0 0)=true then
 if (cop .eql (List.length x1:Int) 0)=true then
 some ((cop .eql (List.length x2:Int) 0))
 else
 some (false)
 else
 some (false)):=by kernel_rfl
noncomputable def Zvj:Fn:=⟨37,[2],[],[],0,[],[],Tryz.f132,[.agg hs16],[.c (.bool)],[]⟩
theorem Zs0:Zvj.S.Ok Tryz.prog 132:=Zvj.ok Tryz.func132 (by kernel_rfl) trivial
noncomputable def ZsL (x0 x1 x2 x3 x4 x5:LL):Option (Bool):=Zvj.S.g [.l x0,.l x1,.l x2,.l x3,.l x4,.l x5]
theorem Zrn (x0 x1 x2 x3 x4 x5:LL):ZsL x0 x1 x2 x3 x4 x5 =
 (if (cop .eql (List.length x0:Int) 0)=true then
 if (cop .eql (List.length x1:Int) 0)=true then
 if (cop .eql (List.length x2:Int) 0)=true then
 if (cop .eql (List.length x3:Int) 0)=true then
 if (cop .eql (List.length x4:Int) 0)=true then
 some ((cop .eql (List.length x5:Int) 0))
 else
 some (false)
 else
 some (false)
 else
 some (false)
 else
 some (false)
 else
 some (false)):=by kernel_rfl
noncomputable def Zvq:Fn:=⟨31,[2],[],[],0,[],[],Tryz.f133,[.agg hs4],[.c (.bool)],[(131,ZuY.S),(132,Zvj.S)]⟩
theorem Zw0:Zvq.S.Ok Tryz.prog 133:=Zvq.ok Tryz.func133 (by kernel_rfl) ⟨ZtU,⟨Zs0,trivial⟩⟩
noncomputable def ZxA (x0 x1:Int) (x2 x3 x4 x5 x6 x7 x8 x9:LL) (x10:Bool) (x11:Int) (x12 x13 x14 x15 x16 x17 x18 x19:LL):Option (Bool):=Zvq.S.g [.i x0,.i x1,.l x2,.l x3,.l x4,.l x5,.l x6,.l x7,.l x8,.l x9,.b x10,.i x11,.l x12,.l x13,.l x14,.l x15,.l x16,.l x17,.l x18,.l x19]
theorem Zrc (x0 x1:Int) (x2 x3 x4 x5 x6 x7 x8 x9:LL) (x10:Bool) (x11:Int) (x12 x13 x14 x15 x16 x17 x18 x19:LL):ZxA x0 x1 x2 x3 x4 x5 x6 x7 x8 x9 x10 x11 x12 x13 x14 x15 x16 x17 x18 x19 =
 (if (cop .eql x0 0)=true then
 (ZuF x1 x2 x3).bind fun (r20:Bool)=>
 if r20=true then
 (ZsL x4 x5 x6 x7 x8 x9).bind fun (r21:Bool)=>
 if r21=true then
 if (!x10)=true then
 (ZuF x11 x12 x13).bind fun (r22:Bool)=>
 if r22=true then
 (ZsL x14 x15 x16 x17 x18 x19).bind fun (r23:Bool)=>
 some (r23)
 else
 some (false)
 else
 some (false)
 else
 some (false)
 else
 some (false)
 else
 some (false)):=by kernel_rfl
noncomputable def F70:Fn:=⟨81,[2],[],[],0,[],[],Tryz.f70,[.agg hs0],[.c (.bool)],[(130,Zvp.S),(131,ZuY.S),(132,Zvj.S),(133,Zvq.S)]⟩
theorem Zzx:F70.S.Ok Tryz.prog 70:=F70.ok Tryz.func70 (by kernel_rfl) ⟨Zxt,⟨ZtU,⟨Zs0,⟨Zw0,trivial⟩⟩⟩⟩
noncomputable def g70 (x0 x1 x2 x3 x4 x5 x6 x7 x8 x9 x10:Int) (x11:Bool) (x12 x13 x14 x15 x16 x17 x18 x19 x20 x21 x22 x23 x24 x25 x26 x27 x28 x29 x30 x31:Int) (x32:LL) (x33 x34 x35 x36 x37 x38:Int) (x39:Bool) (x40 x41 x42 x43:LL) (x44 x45:Int) (x46 x47 x48 x49 x50 x51 x52 x53:LL) (x54 x55:Int) (x56 x57 x58 x59 x60 x61 x62 x63:LL) (x64:Bool) (x65:Int) (x66 x67 x68 x69 x70 x71 x72 x73:LL):Option (Bool):=F70.S.g [.i x0,.i x1,.i x2,.i x3,.i x4,.i x5,.i x6,.i x7,.i x8,.i x9,.i x10,.b x11,.i x12,.i x13,.i x14,.i x15,.i x16,.i x17,.i x18,.i x19,.i x20,.i x21,.i x22,.i x23,.i x24,.i x25,.i x26,.i x27,.i x28,.i x29,.i x30,.i x31,.l x32,.i x33,.i x34,.i x35,.i x36,.i x37,.i x38,.b x39,.l x40,.l x41,.l x42,.l x43,.i x44,.i x45,.l x46,.l x47,.l x48,.l x49,.l x50,.l x51,.l x52,.l x53,.i x54,.i x55,.l x56,.l x57,.l x58,.l x59,.l x60,.l x61,.l x62,.l x63,.b x64,.i x65,.l x66,.l x67,.l x68,.l x69,.l x70,.l x71,.l x72,.l x73]
theorem Ztb (x0 x1 x2 x3 x4 x5 x6 x7 x8 x9 x10:Int) (x11:Bool) (x12 x13 x14 x15 x16 x17 x18 x19 x20 x21 x22 x23 x24 x25 x26 x27 x28 x29 x30 x31:Int) (x32:LL) (x33 x34 x35 x36 x37 x38:Int) (x39:Bool) (x40 x41 x42 x43:LL) (x44 x45:Int) (x46 x47 x48 x49 x50 x51 x52 x53:LL) (x54 x55:Int) (x56 x57 x58 x59 x60 x61 x62 x63:LL) (x64:Bool) (x65:Int) (x66 x67 x68 x69 x70 x71 x72 x73:LL):g70 x0 x1 x2 x3 x4 x5 x6 x7 x8 x9 x10 x11 x12 x13 x14 x15 x16 x17 x18 x19 x20 x21 x22 x23 x24 x25 x26 x27 x28 x29 x30 x31 x32 x33 x34 x35 x36 x37 x38 x39 x40 x41 x42 x43 x44 x45 x46 x47 x48 x49 x50 x51 x52 x53 x54 x55 x56 x57 x58 x59 x60 x61 x62 x63 x64 x65 x66 x67 x68 x69 x70 x71 x72 x73 =
 (if (cop .eql x4 0)=true then
 if (cop .eql x5 0)=true then
 if (cop .eql x6 0)=true then
 if ((cop .eql x7 0)&&((cop .eql x8 0)&&((cop .eql x9 0)&&true)))=true then
 if (cop .eql x10 0)=true then
 if (!x11)=true then
 (ZyC x12 x13 x14 x15 x16 x17 x18 x19 x20 x21 x22 x23 x24 x25 x26 x27 x28 x29 x30 x31 x32 x33 x34 x35 x36 x37 x38 x39).bind fun (r74:Bool)=>
 if r74=true then
 if (cop .eql (List.length x40:Int) 0)=true then
 if (cop .eql (List.length x41:Int) 0)=true then
 if (cop .eql (List.length x42:Int) 0)=true then
 if (cop .eql (List.length x43:Int) 0)=true then
 if (cop .eql x44 0)=true then
 (ZuF x45 x46 x47).bind fun (r75:Bool)=>
 if r75=true then
 (ZsL x48 x49 x50 x51 x52 x53).bind fun (r76:Bool)=>
 if r76=true then
 (ZxA x54 x55 x56 x57 x58 x59 x60 x61 x62 x63 x64 x65 x66 x67 x68 x69 x70 x71 x72 x73).bind fun (r77:Bool)=>
 some (r77)
 else
 some (false)
 else
 some (false)
 else
 some (false)
 else
 some (false)
 else
 some (false)
 else
 some (false)
 else
 some (false)
 else
 some (false)
 else
 some (false)
 else
 some (false)
 else
 some (false)
 else
 some (false)
 else
 some (false)
 else
 some (false)):=by kernel_rfl
noncomputable def F40:Fn:=⟨50,[2],[(6,[(1,.box hs0),(5,.box hs0),(35,.c (.slice 1)),(36,.c (.int .i64)),(37,.c (.int .i64))])],[],0,[],[],Tryz.f40,[.agg hs0],[.c (.bool)],[(65,F65.S),(66,F66.S),(67,F67.S),(68,F68.S),(69,F69.S),(70,F70.S)]⟩
theorem ZAC:F40.S.Ok Tryz.prog 40:=F40.ok Tryz.func40 (by kernel_rfl) ⟨ZAg,⟨Zwu,⟨Zq9,⟨ZAn,⟨ZAr,⟨Zzx,trivial⟩⟩⟩⟩⟩⟩
noncomputable def g40 (x0 x1 x2 x3 x4 x5 x6 x7 x8 x9 x10:Int) (x11:Bool) (x12 x13 x14 x15 x16 x17 x18 x19 x20 x21 x22 x23 x24 x25 x26 x27 x28 x29 x30 x31:Int) (x32:LL) (x33 x34 x35 x36 x37 x38:Int) (x39:Bool) (x40 x41 x42 x43:LL) (x44 x45:Int) (x46 x47 x48 x49 x50 x51 x52 x53:LL) (x54 x55:Int) (x56 x57 x58 x59 x60 x61 x62 x63:LL) (x64:Bool) (x65:Int) (x66 x67 x68 x69 x70 x71 x72 x73:LL):Option (Bool):=F40.S.g [.i x0,.i x1,.i x2,.i x3,.i x4,.i x5,.i x6,.i x7,.i x8,.i x9,.i x10,.b x11,.i x12,.i x13,.i x14,.i x15,.i x16,.i x17,.i x18,.i x19,.i x20,.i x21,.i x22,.i x23,.i x24,.i x25,.i x26,.i x27,.i x28,.i x29,.i x30,.i x31,.l x32,.i x33,.i x34,.i x35,.i x36,.i x37,.i x38,.b x39,.l x40,.l x41,.l x42,.l x43,.i x44,.i x45,.l x46,.l x47,.l x48,.l x49,.l x50,.l x51,.l x52,.l x53,.i x54,.i x55,.l x56,.l x57,.l x58,.l x59,.l x60,.l x61,.l x62,.l x63,.b x64,.i x65,.l x66,.l x67,.l x68,.l x69,.l x70,.l x71,.l x72,.l x73]
noncomputable def Zpe (k:Nat) (x0 x1 x2 x3 x4 x5 x6 x7 x8 x9 x10:Int) (x11:Bool) (x12 x13 x14 x15 x16 x17 x18 x19 x20 x21 x22 x23 x24 x25 x26 x27 x28 x29 x30 x31:Int) (x32:LL) (x33 x34 x35 x36 x37 x38:Int) (x39:Bool) (x40 x41 x42 x43:LL) (x44 x45:Int) (x46 x47 x48 x49 x50 x51 x52 x53:LL) (x54 x55:Int) (x56 x57 x58 x59 x60 x61 x62 x63:LL) (x64:Bool) (x65:Int) (x66 x67 x68 x69 x70 x71 x72 x73:LL) (x74 x75 x76 x77 x78 x79 x80 x81 x82 x83 x84:Int) (x85:Bool) (x86 x87 x88 x89 x90 x91 x92 x93 x94 x95 x96 x97 x98 x99 x100 x101 x102 x103 x104 x105:Int) (x106:LL) (x107 x108 x109 x110 x111 x112:Int) (x113:Bool) (x114 x115 x116 x117:LL) (x118 x119:Int) (x120 x121 x122 x123 x124 x125 x126 x127:LL) (x128 x129:Int) (x130 x131 x132 x133 x134 x135 x136 x137:LL) (x138:Bool) (x139:Int) (x140 x141 x142 x143 x144 x145 x146 x147 x148:LL) (x149 x150:Int):Option (Bool):=F40.lp [0,1,0,1,0,1,0,1,0] 0 r0 k [.i x0,.i x1,.i x2,.i x3,.i x4,.i x5,.i x6,.i x7,.i x8,.i x9,.i x10,.b x11,.i x12,.i x13,.i x14,.i x15,.i x16,.i x17,.i x18,.i x19,.i x20,.i x21,.i x22,.i x23,.i x24,.i x25,.i x26,.i x27,.i x28,.i x29,.i x30,.i x31,.l x32,.i x33,.i x34,.i x35,.i x36,.i x37,.i x38,.b x39,.l x40,.l x41,.l x42,.l x43,.i x44,.i x45,.l x46,.l x47,.l x48,.l x49,.l x50,.l x51,.l x52,.l x53,.i x54,.i x55,.l x56,.l x57,.l x58,.l x59,.l x60,.l x61,.l x62,.l x63,.b x64,.i x65,.l x66,.l x67,.l x68,.l x69,.l x70,.l x71,.l x72,.l x73,.i x74,.i x75,.i x76,.i x77,.i x78,.i x79,.i x80,.i x81,.i x82,.i x83,.i x84,.b x85,.i x86,.i x87,.i x88,.i x89,.i x90,.i x91,.i x92,.i x93,.i x94,.i x95,.i x96,.i x97,.i x98,.i x99,.i x100,.i x101,.i x102,.i x103,.i x104,.i x105,.l x106,.i x107,.i x108,.i x109,.i x110,.i x111,.i x112,.b x113,.l x114,.l x115,.l x116,.l x117,.i x118,.i x119,.l x120,.l x121,.l x122,.l x123,.l x124,.l x125,.l x126,.l x127,.i x128,.i x129,.l x130,.l x131,.l x132,.l x133,.l x134,.l x135,.l x136,.l x137,.b x138,.i x139,.l x140,.l x141,.l x142,.l x143,.l x144,.l x145,.l x146,.l x147,.l x148,.i x149,.i x150]
theorem ZjD (k:Nat) (x0 x1 x2 x3 x4 x5 x6 x7 x8 x9 x10:Int) (x11:Bool) (x12 x13 x14 x15 x16 x17 x18 x19 x20 x21 x22 x23 x24 x25 x26 x27 x28 x29 x30 x31:Int) (x32:LL) (x33 x34 x35 x36 x37 x38:Int) (x39:Bool) (x40 x41 x42 x43:LL) (x44 x45:Int) (x46 x47 x48 x49 x50 x51 x52 x53:LL) (x54 x55:Int) (x56 x57 x58 x59 x60 x61 x62 x63:LL) (x64:Bool) (x65:Int) (x66 x67 x68 x69 x70 x71 x72 x73:LL) (x74 x75 x76 x77 x78 x79 x80 x81 x82 x83 x84:Int) (x85:Bool) (x86 x87 x88 x89 x90 x91 x92 x93 x94 x95 x96 x97 x98 x99 x100 x101 x102 x103 x104 x105:Int) (x106:LL) (x107 x108 x109 x110 x111 x112:Int) (x113:Bool) (x114 x115 x116 x117:LL) (x118 x119:Int) (x120 x121 x122 x123 x124 x125 x126 x127:LL) (x128 x129:Int) (x130 x131 x132 x133 x134 x135 x136 x137:LL) (x138:Bool) (x139:Int) (x140 x141 x142 x143 x144 x145 x146 x147 x148:LL) (x149 x150:Int):Zpe (k+1) x0 x1 x2 x3 x4 x5 x6 x7 x8 x9 x10 x11 x12 x13 x14 x15 x16 x17 x18 x19 x20 x21 x22 x23 x24 x25 x26 x27 x28 x29 x30 x31 x32 x33 x34 x35 x36 x37 x38 x39 x40 x41 x42 x43 x44 x45 x46 x47 x48 x49 x50 x51 x52 x53 x54 x55 x56 x57 x58 x59 x60 x61 x62 x63 x64 x65 x66 x67 x68 x69 x70 x71 x72 x73 x74 x75 x76 x77 x78 x79 x80 x81 x82 x83 x84 x85 x86 x87 x88 x89 x90 x91 x92 x93 x94 x95 x96 x97 x98 x99 x100 x101 x102 x103 x104 x105 x106 x107 x108 x109 x110 x111 x112 x113 x114 x115 x116 x117 x118 x119 x120 x121 x122 x123 x124 x125 x126 x127 x128 x129 x130 x131 x132 x133 x134 x135 x136 x137 x138 x139 x140 x141 x142 x143 x144 x145 x146 x147 x148 x149 x150 =
 (if (cop .lss x150 x149)=true then
 Zl x148 x150 [.int .i64] fun (r151:Int)=>
 (g68 x0 x1 x2 x3 x4 x5 x6 x7 x8 x9 x10 x11 x12 x13 x14 x15 x16 x17 x18 x19 x20 x21 x22 x23 x24 x25 x26 x27 x28 x29 x30 x31 x32 x33 x34 x35 x36 x37 x38 x39 x40 x41 x42 x43 x44 x45 x46 x47 x48 x49 x50 x51 x52 x53 x54 x55 x56 x57 x58 x59 x60 x61 x62 x63 x64 x65 x66 x67 x68 x69 x70 x71 x72 x73 r151).bind fun (r152:Bool)=>
 if (!r152)=true then
 some (false)
 else
 (g69 x74 x75 x76 x77 x78 x79 x80 x81 x82 x83 x84 x85 x86 x87 x88 x89 x90 x91 x92 x93 x94 x95 x96 x97 x98 x99 x100 x101 x102 x103 x104 x105 x106 x107 x108 x109 x110 x111 x112 x113 x114 x115 x116 x117 x118 x119 x120 x121 x122 x123 x124 x125 x126 x127 x128 x129 x130 x131 x132 x133 x134 x135 x136 x137 x138 x139 x140 x141 x142 x143 x144 x145 x146 x147 r151).bind fun (r153:Qt2)=>
 Zpe k x0 x1 x2 x3 x4 x5 x6 x7 x8 x9 x10 x11 x12 x13 x14 x15 x16 x17 x18 x19 x20 x21 x22 x23 x24 x25 x26 x27 x28 x29 x30 x31 x32 x33 x34 x35 x36 x37 x38 x39 x40 x41 x42 x43 x44 x45 x46 x47 x48 x49 x50 x51 x52 x53 x54 x55 x56 x57 x58 x59 x60 x61 x62 x63 x64 x65 x66 x67 x68 x69 x70 x71 x72 x73 r153.1 r153.2.1 r153.2.2.1 r153.2.2.2.1 r153.2.2.2.2.1 r153.2.2.2.2.2.1 r153.2.2.2.2.2.2.1 r153.2.2.2.2.2.2.2.1 r153.2.2.2.2.2.2.2.2.1 r153.2.2.2.2.2.2.2.2.2.1 r153.2.2.2.2.2.2.2.2.2.2.1 r153.2.2.2.2.2.2.2.2.2.2.2.1 (d4 (d8 r153)).1 (d4 (d8 r153)).2.1 (d2 (d4 (d8 r153))).1 (d2 (d4 (d8 r153))).2.1 (d16 r153).1 (d16 r153).2.1 (d2 (d16 r153)).1 (d2 (d16 r153)).2.1 (d4 (d16 r153)).1 (d4 (d16 r153)).2.1 (d2 (d4 (d16 r153))).1 (d2 (d4 (d16 r153))).2.1 (d8 (d16 r153)).1 (d8 (d16 r153)).2.1 (d2 (d8 (d16 r153))).1 (d2 (d8 (d16 r153))).2.1 (d4 (d8 (d16 r153))).1 (d4 (d8 (d16 r153))).2.1 (d2 (d4 (d8 (d16 r153)))).1 (d2 (d4 (d8 (d16 r153)))).2.1 (d16 (d16 r153)).1 (d16 (d16 r153)).2.1 (d2 (d16 (d16 r153))).1 (d2 (d16 (d16 r153))).2.1 (d4 (d16 (d16 r153))).1 (d4 (d16 (d16 r153))).2.1 (d2 (d4 (d16 (d16 r153)))).1 (d2 (d4 (d16 (d16 r153)))).2.1 (d8 (d16 (d16 r153))).1 (d8 (d16 (d16 r153))).2.1 (d2 (d8 (d16 (d16 r153)))).1 (d2 (d8 (d16 (d16 r153)))).2.1 (d4 (d8 (d16 (d16 r153)))).1 (d4 (d8 (d16 (d16 r153)))).2.1 (d2 (d4 (d8 (d16 (d16 r153))))).1 (d2 (d4 (d8 (d16 (d16 r153))))).2.1 (d16 (d16 (d16 r153))).1 (d16 (d16 (d16 r153))).2.1 (d2 (d16 (d16 (d16 r153)))).1 (d2 (d16 (d16 (d16 r153)))).2.1 (d4 (d16 (d16 (d16 r153)))).1 (d4 (d16 (d16 (d16 r153)))).2.1 (d2 (d4 (d16 (d16 (d16 r153))))).1 (d2 (d4 (d16 (d16 (d16 r153))))).2.1 (d8 (d16 (d16 (d16 r153)))).1 (d8 (d16 (d16 (d16 r153)))).2.1 (d2 (d8 (d16 (d16 (d16 r153))))).1 (d2 (d8 (d16 (d16 (d16 r153))))).2.1 (d4 (d8 (d16 (d16 (d16 r153))))).1 (d4 (d8 (d16 (d16 (d16 r153))))).2.1 (d2 (d4 (d8 (d16 (d16 (d16 r153)))))).1 (d2 (d4 (d8 (d16 (d16 (d16 r153)))))).2.1 (d16 (d16 (d16 (d16 r153)))).1 (d16 (d16 (d16 (d16 r153)))).2.1 (d2 (d16 (d16 (d16 (d16 r153))))).1 (d2 (d16 (d16 (d16 (d16 r153))))).2.1 (d4 (d16 (d16 (d16 (d16 r153))))).1 (d4 (d16 (d16 (d16 (d16 r153))))).2.1 (d2 (d4 (d16 (d16 (d16 (d16 r153)))))).1 (d2 (d4 (d16 (d16 (d16 (d16 r153)))))).2.1 (d8 (d16 (d16 (d16 (d16 r153))))).1 (d8 (d16 (d16 (d16 (d16 r153))))).2 x148 x149 (iop .add .i64 x150 1)
 else
 (g70 x74 x75 x76 x77 x78 x79 x80 x81 x82 x83 x84 x85 x86 x87 x88 x89 x90 x91 x92 x93 x94 x95 x96 x97 x98 x99 x100 x101 x102 x103 x104 x105 x106 x107 x108 x109 x110 x111 x112 x113 x114 x115 x116 x117 x118 x119 x120 x121 x122 x123 x124 x125 x126 x127 x128 x129 x130 x131 x132 x133 x134 x135 x136 x137 x138 x139 x140 x141 x142 x143 x144 x145 x146 x147).bind fun (r151:Bool)=>
 some (r151)):=by kernel_rfl
theorem ZsH (x0 x1 x2 x3 x4 x5 x6 x7 x8 x9 x10:Int) (x11:Bool) (x12 x13 x14 x15 x16 x17 x18 x19 x20 x21 x22 x23 x24 x25 x26 x27 x28 x29 x30 x31:Int) (x32:LL) (x33 x34 x35 x36 x37 x38:Int) (x39:Bool) (x40 x41 x42 x43:LL) (x44 x45:Int) (x46 x47 x48 x49 x50 x51 x52 x53:LL) (x54 x55:Int) (x56 x57 x58 x59 x60 x61 x62 x63:LL) (x64:Bool) (x65:Int) (x66 x67 x68 x69 x70 x71 x72 x73:LL):g40 x0 x1 x2 x3 x4 x5 x6 x7 x8 x9 x10 x11 x12 x13 x14 x15 x16 x17 x18 x19 x20 x21 x22 x23 x24 x25 x26 x27 x28 x29 x30 x31 x32 x33 x34 x35 x36 x37 x38 x39 x40 x41 x42 x43 x44 x45 x46 x47 x48 x49 x50 x51 x52 x53 x54 x55 x56 x57 x58 x59 x60 x61 x62 x63 x64 x65 x66 x67 x68 x69 x70 x71 x72 x73 =
 ((g65 x0).bind fun (r74:LL×Bool)=>
 if (!r74.2)=true then
 some (false)
 else
 (g66 x1).bind fun (r76:Bool)=>
 if (!r76)=true then
 some (false)
 else
 (g67 x2).bind fun (r77:Bool)=>
 if (!r77)=true then
 some (false)
 else
 (g67 x3).bind fun (r78:Bool)=>
 if (!r78)=true then
 some (false)
 else
 Zpe Zx x0 x1 x2 x3 x4 x5 x6 x7 x8 x9 x10 x11 x12 x13 x14 x15 x16 x17 x18 x19 x20 x21 x22 x23 x24 x25 x26 x27 x28 x29 x30 x31 x32 x33 x34 x35 x36 x37 x38 x39 x40 x41 x42 x43 x44 x45 x46 x47 x48 x49 x50 x51 x52 x53 x54 x55 x56 x57 x58 x59 x60 x61 x62 x63 x64 x65 x66 x67 x68 x69 x70 x71 x72 x73 x0 x1 x2 x3 x4 x5 x6 x7 x8 x9 x10 x11 x12 x13 x14 x15 x16 x17 x18 x19 x20 x21 x22 x23 x24 x25 x26 x27 x28 x29 x30 x31 x32 x33 x34 x35 x36 x37 x38 x39 x40 x41 x42 x43 x44 x45 x46 x47 x48 x49 x50 x51 x52 x53 x54 x55 x56 x57 x58 x59 x60 x61 x62 x63 x64 x65 x66 x67 x68 x69 x70 x71 x72 x73 r74.1 (List.length r74.1:Int) 0):=by kernel_rfl
end Go.Proofs.YtljejgmcgddppaaGreat
