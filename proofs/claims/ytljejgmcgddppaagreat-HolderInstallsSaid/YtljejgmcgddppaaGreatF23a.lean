/- Functions of the program, as what they compute. -/
import Derived.Test.YtljejgmcgddppaaGreatG23
namespace Go.Proofs.YtljejgmcgddppaaGreat
open Go Go.AM
set_option linter.unusedVariables false
set_option maxRecDepth 100000
noncomputable def F65:Fn:=⟨44,[2,3],[],[],0,[],[],Tryz.f65,[.c (.int .i64)],[.c (.own false 129),.c (.bool)],[]⟩
theorem Zzs:F65.S.Ok Tryz.prog 65:=F65.ok Tryz.func65 (by kernel_rfl) trivial
noncomputable def g65 (x0:Int):Option (LL×Bool):=F65.S.g [.i x0]
theorem YO (x0:Int):g65 x0 =
 (if (cop .eql x0 1)=true then
 some (((E0++[[AV.val (.int .i64 0)]])++[[AV.val (.int .i64 1)]]),true)
 else
 if (cop .eql x0 2)=true then
 some ((((((E0++[[AV.val (.int .i64 0)]])++[[AV.val (.int .i64 2)]])++[[AV.val (.int .i64 3)]])++[[AV.val (.int .i64 4)]])++[[AV.val (.int .i64 5)]]),true)
 else
 if (cop .eql x0 3)=true then
 some (((E0++[[AV.val (.int .i64 0)]])++[[AV.val (.int .i64 2)]]),true)
 else
 if (cop .eql x0 7)=true then
 some (((E0++[[AV.val (.int .i64 0)]])++[[AV.val (.int .i64 2)]]),true)
 else
 if (cop .eql x0 8)=true then
 some (((E0++[[AV.val (.int .i64 0)]])++[[AV.val (.int .i64 2)]]),true)
 else
 if (cop .eql x0 9)=true then
 some (((E0++[[AV.val (.int .i64 0)]])++[[AV.val (.int .i64 2)]]),true)
 else
 if (cop .eql x0 10)=true then
 some (((E0++[[AV.val (.int .i64 0)]])++[[AV.val (.int .i64 2)]]),true)
 else
 if (cop .eql x0 11)=true then
 some (((E0++[[AV.val (.int .i64 0)]])++[[AV.val (.int .i64 2)]]),true)
 else
 if (cop .eql x0 4)=true then
 some (((((E0++[[AV.val (.int .i64 0)]])++[[AV.val (.int .i64 2)]])++[[AV.val (.int .i64 6)]])++[[AV.val (.int .i64 5)]]),true)
 else
 if (cop .eql x0 5)=true then
 some ((((E0++[[AV.val (.int .i64 0)]])++[[AV.val (.int .i64 2)]])++[[AV.val (.int .i64 3)]]),true)
 else
 if (cop .eql x0 6)=true then
 some ((((E0++[[AV.val (.int .i64 0)]])++[[AV.val (.int .i64 2)]])++[[AV.val (.int .i64 7)]]),true)
 else
 if (cop .eql x0 12)=true then
 some (((E0++[[AV.val (.int .i64 8)]])++[[AV.val (.int .i64 9)]]),true)
 else
 if (cop .eql x0 13)=true then
 some (((E0++[[AV.val (.int .i64 8)]])++[[AV.val (.int .i64 10)]]),true)
 else
 if (cop .eql x0 14)=true then
 some ((((((E0++[[AV.val (.int .i64 8)]])++[[AV.val (.int .i64 11)]])++[[AV.val (.int .i64 9)]])++[[AV.val (.int .i64 12)]])++[[AV.val (.int .i64 13)]]),true)
 else
 if (cop .eql x0 15)=true then
 some ((E0++[[AV.val (.int .i64 8)]]),true)
 else
 if (cop .eql x0 16)=true then
 some ((E0++[[AV.val (.int .i64 8)]]),true)
 else
 if (cop .eql x0 17)=true then
 some (((E0++[[AV.val (.int .i64 9)]])++[[AV.val (.int .i64 14)]]),true)
 else
 some (E0,false)):=by kernel_rfl
noncomputable def F66:Fn:=⟨9,[2],[],[],0,[],[],Tryz.f66,[.c (.int .i64)],[.c (.bool)],[]⟩
theorem Zwu:F66.S.Ok Tryz.prog 66:=F66.ok Tryz.func66 (by kernel_rfl) trivial
noncomputable def g66 (x0:Int):Option (Bool):=F66.S.g [.i x0]
theorem ZuP (x0:Int):g66 x0 =
 (if (cop .geq x0 0)=true then
 some ((cop .leq x0 1073741824))
 else
 some (false)):=by kernel_rfl
noncomputable def F67:Fn:=⟨9,[2],[],[],0,[],[],Tryz.f67,[.c (.int .i64)],[.c (.bool)],[]⟩
theorem Zp5:F67.S.Ok Tryz.prog 67:=F67.ok Tryz.func67 (by kernel_rfl) trivial
noncomputable def g67 (x0:Int):Option (Bool):=F67.S.g [.i x0]
theorem ZuL (x0:Int):g67 x0 =
 (if (cop .geq x0 0)=true then
 some ((cop .lss x0 32))
 else
 some (false)):=by kernel_rfl
noncomputable def ZrV:Fn:=⟨9,[2],[],[],0,[],[],Tryz.f110,[.c (.int .i64)],[.c (.bool)],[]⟩
theorem ZnN:ZrV.S.Ok Tryz.prog 110:=ZrV.ok Tryz.func110 (by kernel_rfl) trivial
noncomputable def Zsj (x0:Int):Option (Bool):=ZrV.S.g [.i x0]
theorem Zp7 (x0:Int):Zsj x0 =
 (if (cop .geq x0 0)=true then
 some ((cop .lss x0 16))
 else
 some (false)):=by kernel_rfl
noncomputable def Zrd:Fn:=⟨31,[2],[],[],0,[],[],Tryz.f120,[.agg [.int .i64,.int .i64,.int .i64]],[.c (.bool)],[]⟩
theorem Zor:Zrd.S.Ok Tryz.prog 120:=Zrd.ok Tryz.func120 (by kernel_rfl) trivial
noncomputable def ZrN (x0 x1 x2:Int):Option (Bool):=Zrd.S.g [.i x0,.i x1,.i x2]
theorem ZrP (x0 x1 x2:Int):ZrN x0 x1 x2 =
 (if (cop .geq x0 0)=true then
 if (cop .lss x0 32)=true then
 if (cop .geq x1 1)=true then
 if (cop .leq x1 1073741824)=true then
 if (cop .geq x2 0)=true then
 some ((cop .lss x2 8))
 else
 some (false)
 else
 some (false)
 else
 some (false)
 else
 some (false)
 else
 some (false)):=by kernel_rfl
noncomputable def Zq1:Fn:=⟨10,[2],[],[],0,[],[],Tryz.f112,[.agg [.int .i64,.int .i64,.int .i64]],[.c (.bool)],[(120,Zrd.S)]⟩
theorem Zn9:Zq1.S.Ok Tryz.prog 112:=Zq1.ok Tryz.func112 (by kernel_rfl) ⟨Zor,trivial⟩
noncomputable def Zse (x0 x1 x2:Int):Option (Bool):=Zq1.S.g [.i x0,.i x1,.i x2]
theorem ZqT (x0 x1 x2:Int):Zse x0 x1 x2 =
 ((ZrN x0 x1 x2).bind fun (r3:Bool)=>
 if r3=true then
 some ((cop .eql x2 0))
 else
 some (false)):=by kernel_rfl
noncomputable def Zug:Fn:=⟨26,[4],[(4,[(0,.c (.slice 3)),(1,.c (.slice 3)),(12,.c (.int .i64)),(13,.c (.int .i64))])],[],0,[],[],Tryz.f163,[.c (.slice 3),.c (.slice 3)],[.c (.bool)],[]⟩
theorem Zw8:Zug.S.Ok Tryz.prog 163:=Zug.ok Tryz.func163 (by kernel_rfl) trivial
noncomputable def Zym (x0 x1:LL):Option (Bool):=Zug.S.g [.l x0,.l x1]
noncomputable def Zc6 (k:Nat) (x0 x1:LL) (x2 x3:Int):Option (Bool):=Zug.lp [1,0] 0 r0 k [.l x0,.l x1,.i x2,.i x3]
theorem Zhh (k:Nat) (x0 x1:LL) (x2 x3:Int):Zc6 (k+1) x0 x1 x2 x3 =
 (if (cop .lss x3 x2)=true then
 Zi x0 x3 [.int .i64,.int .i64,.int .i64] fun (r4:Int×Int×Int)=>
 Zi x1 x3 [.int .i64,.int .i64,.int .i64] fun (r7:Int×Int×Int)=>
 if (!((cop .eql r4.1 r7.1)&&((cop .eql r4.2.1 r7.2.1)&&((cop .eql r4.2.2 r7.2.2)&&true))))=true then
 some (false)
 else
 Zc6 k x0 x1 x2 (iop .add .i64 x3 1)
 else
 some (true)):=by kernel_rfl
theorem Zrs (x0 x1:LL):Zym x0 x1 =
 (if (cop .neq (List.length x0:Int) (List.length x1:Int))=true then
 some (false)
 else
 Zc6 Zx x0 x1 (List.length x0:Int) 0):=by kernel_rfl
noncomputable def Zr6:Fn:=⟨24,[4],[],[],0,[],[],Tryz.f148,[.agg hs8,.agg hs8],[.c (.bool)],[(163,Zug.S)]⟩
theorem ZrT:Zr6.S.Ok Tryz.prog 148:=Zr6.ok Tryz.func148 (by kernel_rfl) ⟨Zw8,trivial⟩
noncomputable def Zry (x0 x1 x2:Int) (x3:LL) (x4 x5 x6 x7 x8 x9:Int) (x10:Bool) (x11 x12 x13:Int) (x14:LL) (x15 x16 x17 x18 x19 x20:Int) (x21:Bool):Option (Bool):=Zr6.S.g [.i x0,.i x1,.i x2,.l x3,.i x4,.i x5,.i x6,.i x7,.i x8,.i x9,.b x10,.i x11,.i x12,.i x13,.l x14,.i x15,.i x16,.i x17,.i x18,.i x19,.i x20,.b x21]
theorem ZqB (x0 x1 x2:Int) (x3:LL) (x4 x5 x6 x7 x8 x9:Int) (x10:Bool) (x11 x12 x13:Int) (x14:LL) (x15 x16 x17 x18 x19 x20:Int) (x21:Bool):Zry x0 x1 x2 x3 x4 x5 x6 x7 x8 x9 x10 x11 x12 x13 x14 x15 x16 x17 x18 x19 x20 x21 =
 (if ((cop .eql x0 x11)&&((cop .eql x1 x12)&&((cop .eql x2 x13)&&true)))=true then
 if ((cop .eql x4 x15)&&((cop .eql x5 x16)&&((cop .eql x6 x17)&&((cop .eql x7 x18)&&((cop .eql x8 x19)&&((cop .eql x9 x20)&&((x10 == x21)&&true)))))))=true then
 (Zym x3 x14).bind fun (r22:Bool)=>
 some (r22)
 else
 some (false)
 else
 some (false)):=by kernel_rfl
noncomputable def Zvh:Fn:=⟨38,[4],[],[],0,[],[],Tryz.f164,[.c (.int .i64),.c (.int .i64)],[.c (.bool)],[]⟩
theorem Zyq:Zvh.S.Ok Tryz.prog 164:=Zvh.ok Tryz.func164 (by kernel_rfl) trivial
noncomputable def ZxO (x0 x1:Int):Option (Bool):=Zvh.S.g [.i x0,.i x1]
theorem Zrt (x0 x1:Int):ZxO x0 x1 =
 (if (cop .eql x0 1)=true then
 if (cop .geq x1 6)=true then
 some ((cop .leq x1 40))
 else
 some (false)
 else
 if (cop .eql x0 2)=true then
 if (cop .geq x1 12)=true then
 some ((cop .leq x1 40))
 else
 some (false)
 else
 if (cop .eql x0 3)=true then
 some ((cop .eql x1 12))
 else
 if (cop .eql x0 4)=true then
 some ((cop .eql x1 6))
 else
 if (cop .eql x0 5)=true then
 some ((cop .eql x1 10))
 else
 if (cop .eql x0 6)=true then
 some ((cop .eql x1 16))
 else
 some (false)):=by kernel_rfl
noncomputable def Zvi:Fn:=⟨8,[2],[],[],0,[],[],Tryz.f166,[.agg hs13],[.agg [.int .i64,.int .i64]],[]⟩
theorem Zwk:Zvi.S.Ok Tryz.prog 166:=Zvi.ok Tryz.func166 (by kernel_rfl) trivial
noncomputable def Zw6 (x0 x1 x2 x3 x4 x5:Int) (x6:Bool):Option (Int×Int):=Zvi.S.g [.i x0,.i x1,.i x2,.i x3,.i x4,.i x5,.b x6]
theorem ZrA (x0 x1 x2 x3 x4 x5:Int) (x6:Bool):Zw6 x0 x1 x2 x3 x4 x5 x6 =
 (some (x1,x2)):=by kernel_rfl
noncomputable def Zvv:Fn:=⟨32,[2],[],[],0,[],[],Tryz.f165,[.agg [.int .i64,.int .i64]],[.c (.bool)],[]⟩
theorem Zx7:Zvv.S.Ok Tryz.prog 165:=Zvv.ok Tryz.func165 (by kernel_rfl) trivial
noncomputable def Zwt (x0 x1:Int):Option (Bool):=Zvv.S.g [.i x0,.i x1]
theorem ZrW (x0 x1:Int):Zwt x0 x1 =
 (if (cop .lss x1 6)=true then
 some (false)
 else
 if (cop .gtr x1 40)=true then
 some (false)
 else
 if (cop .lss x0 0)=true then
 some (false)
 else
 Zw ((0:Int)≤x1)<|
 Zw (((iop .shl .i64 1 x1):Int)≠0)<|
 if (cop .eql (iop .rem .i64 x0 (iop .shl .i64 1 x1)) 0)=true then
 some ((cop .leq x0 (iop .sub .i64 1099511627776 (iop .shl .i64 1 x1))))
 else
 some (false)):=by kernel_rfl
noncomputable def Zvd:Fn:=⟨22,[4],[],[],0,[],[],Tryz.f167,[.c (.int .i64),.c (.int .i64)],[.c (.bool)],[]⟩
theorem Zx3:Zvd.S.Ok Tryz.prog 167:=Zvd.ok Tryz.func167 (by kernel_rfl) trivial
noncomputable def Zxl (x0 x1:Int):Option (Bool):=Zvd.S.g [.i x0,.i x1]
theorem ZpV (x0 x1:Int):Zxl x0 x1 =
 (if (cop .eql x0 32)=true then
 if (cop .geq x1 0)=true then
 some ((cop .leq x1 1))
 else
 some (false)
 else
 if (cop .eql x0 39)=true then
 if (cop .geq x1 0)=true then
 some ((cop .leq x1 2))
 else
 some (false)
 else
 some (false)):=by kernel_rfl
noncomputable def Zvz:Fn:=⟨55,[2],[],[],0,[],[],Tryz.f150,[.agg hs13],[.c (.bool)],[(164,Zvh.S),(166,Zvi.S),(165,Zvv.S),(167,Zvd.S)]⟩
theorem ZxP:Zvz.S.Ok Tryz.prog 150:=Zvz.ok Tryz.func150 (by kernel_rfl) ⟨Zyq,⟨Zwk,⟨Zx7,⟨Zx3,trivial⟩⟩⟩⟩
noncomputable def Zyp (x0 x1 x2 x3 x4 x5:Int) (x6:Bool):Option (Bool):=Zvz.S.g [.i x0,.i x1,.i x2,.i x3,.i x4,.i x5,.b x6]
theorem ZqE (x0 x1 x2 x3 x4 x5:Int) (x6:Bool):Zyp x0 x1 x2 x3 x4 x5 x6 =
 ((ZxO x0 x2).bind fun (r7:Bool)=>
 if (!r7)=true then
 some (false)
 else
 (Zw6 x0 x1 x2 x3 x4 x5 x6).bind fun (r8:Int×Int)=>
 (Zwt r8.1 r8.2).bind fun (r10:Bool)=>
 if (!r10)=true then
 some (false)
 else
 if (cop .lss x3 0)=true then
 some (false)
 else
 if (cop .gtr x3 7)=true then
 some (false)
 else
 if (cop .eql x0 3)=true then
 (Zxl x4 x5).bind fun (r11:Bool)=>
 if (!r11)=true then
 some (false)
 else
 if (!x6)=true then
 some (true)
 else
 if (cop .eql x0 1)=true then
 some (true)
 else
 some ((cop .eql x0 2))
 else
 if (cop .neq x4 0)=true then
 some (false)
 else
 if (cop .neq x5 0)=true then
 some (false)
 else
 if (!x6)=true then
 some (true)
 else
 if (cop .eql x0 1)=true then
 some (true)
 else
 some ((cop .eql x0 2))):=by kernel_rfl
noncomputable def Zs0:Fn:=⟨19,[4],[(2,[(0,.c (.slice 3)),(3,.box [.int .i64,.int .i64,.int .i64]),(7,.c (.int .i64)),(8,.c (.int .i64))])],[],0,[],[],Tryz.f136,[.c (.slice 3),.agg [.int .i64,.int .i64,.int .i64]],[.c (.int .i64)],[]⟩
theorem Zwv:Zs0.S.Ok Tryz.prog 136:=Zs0.ok Tryz.func136 (by kernel_rfl) trivial
noncomputable def ZyX (x0:LL) (x1 x2 x3:Int):Option (Int):=Zs0.S.g [.l x0,.i x1,.i x2,.i x3]
noncomputable def Zg6 (k:Nat) (x0:LL) (x1 x2 x3 x4 x5:Int):Option (Int):=Zs0.lp [0] 0 r0 k [.l x0,.i x1,.i x2,.i x3,.i x4,.i x5]
theorem ZgL (k:Nat) (x0:LL) (x1 x2 x3 x4 x5:Int):Zg6 (k+1) x0 x1 x2 x3 x4 x5 =
 (if (cop .lss x5 x4)=true then
 Zi x0 x5 [.int .i64,.int .i64,.int .i64] fun (r6:Int×Int×Int)=>
 if ((cop .eql x1 r6.1)&&((cop .eql x2 r6.2.1)&&((cop .eql x3 r6.2.2)&&true)))=true then
 some (x5)
 else
 Zg6 k x0 x1 x2 x3 x4 (iop .add .i64 x5 1)
 else
 some ((-1))):=by kernel_rfl
theorem ZpW (x0:LL) (x1 x2 x3:Int):ZyX x0 x1 x2 x3 =
 (Zg6 Zx x0 x1 x2 x3 (List.length x0:Int) 0):=by kernel_rfl
noncomputable def F76:Fn:=⟨9,[4],[],[],0,[],[],Tryz.f76,[.c (.slice 3),.agg [.int .i64,.int .i64,.int .i64]],[.c (.bool)],[(136,Zs0.S)]⟩
theorem Zyv:F76.S.Ok Tryz.prog 76:=F76.ok Tryz.func76 (by kernel_rfl) ⟨Zwv,trivial⟩
noncomputable def g76 (x0:LL) (x1 x2 x3:Int):Option (Bool):=F76.S.g [.l x0,.i x1,.i x2,.i x3]
theorem Ztj (x0:LL) (x1 x2 x3:Int):g76 x0 x1 x2 x3 =
 ((ZyX x0 x1 x2 x3).bind fun (r4:Int)=>
 some ((cop .geq r4 0))):=by kernel_rfl
noncomputable def Zpl:Fn:=⟨47,[2],[(4,[(1,.box hs8),(22,.c (.slice 3)),(23,.c (.int .i64)),(24,.c (.int .i64))])],[],0,[],[],Tryz.f116,[.agg hs8],[.c (.bool)],[(120,Zrd.S),(150,Zvz.S),(76,F76.S)]⟩
theorem ZmQ:Zpl.S.Ok Tryz.prog 116:=Zpl.ok Tryz.func116 (by kernel_rfl) ⟨Zor,⟨ZxP,⟨Zyv,trivial⟩⟩⟩
noncomputable def Zpw (x0 x1 x2:Int) (x3:LL) (x4 x5 x6 x7 x8 x9:Int) (x10:Bool):Option (Bool):=Zpl.S.g [.i x0,.i x1,.i x2,.l x3,.i x4,.i x5,.i x6,.i x7,.i x8,.i x9,.b x10]
noncomputable def Zi8 (k:Nat) (x0 x1 x2:Int) (x3:LL) (x4 x5 x6 x7 x8 x9:Int) (x10:Bool) (x11:LL) (x12 x13:Int):Option (Bool):=Zpl.lp [0,1,0,1,1,0] 0 r0 k [.i x0,.i x1,.i x2,.l x3,.i x4,.i x5,.i x6,.i x7,.i x8,.i x9,.b x10,.l x11,.i x12,.i x13]
theorem Zhf (k:Nat) (x0 x1 x2:Int) (x3:LL) (x4 x5 x6 x7 x8 x9:Int) (x10:Bool) (x11:LL) (x12 x13:Int):Zi8 (k+1) x0 x1 x2 x3 x4 x5 x6 x7 x8 x9 x10 x11 x12 x13 =
 (if (cop .lss x13 x12)=true then
 Zi x11 x13 [.int .i64,.int .i64,.int .i64] fun (r14:Int×Int×Int)=>
 (ZrN r14.1 r14.2.1 r14.2.2).bind fun (r17:Bool)=>
 if (!r17)=true then
 some (false)
 else
 if ((cop .eql r14.1 x0)&&((cop .eql r14.2.1 x1)&&((cop .eql r14.2.2 x2)&&true)))=true then
 some (false)
 else
 Zw ((0:Int)≤x13)<|
 Zw ((x13:Int)≤(List.length x3:Int))<|
 (g76 (List.take (Int.toNat x13) x3) r14.1 r14.2.1 r14.2.2).bind fun (r18:Bool)=>
 if r18=true then
 some (false)
 else
 Zi8 k x0 x1 x2 x3 x4 x5 x6 x7 x8 x9 x10 x11 x12 (iop .add .i64 x13 1)
 else
 some (true)):=by kernel_rfl
theorem Zqs (x0 x1 x2:Int) (x3:LL) (x4 x5 x6 x7 x8 x9:Int) (x10:Bool):Zpw x0 x1 x2 x3 x4 x5 x6 x7 x8 x9 x10 =
 ((ZrN x0 x1 x2).bind fun (r11:Bool)=>
 if (!r11)=true then
 some (false)
 else
 (Zyp x4 x5 x6 x7 x8 x9 x10).bind fun (r12:Bool)=>
 if (!r12)=true then
 some (false)
 else
 if (cop .gtr (List.length x3:Int) 8)=true then
 some (false)
 else
 Zi8 Zx x0 x1 x2 x3 x4 x5 x6 x7 x8 x9 x10 x3 (List.length x3:Int) 0):=by kernel_rfl
noncomputable def ZsA:Fn:=⟨46,[2],[],[],0,[],[],Tryz.f111,[.agg hs3],[.c (.bool)],[(112,Zq1.S),(110,ZrV.S),(148,Zr6.S),(116,Zpl.S)]⟩
theorem Zu3:ZsA.S.Ok Tryz.prog 111:=ZsA.ok Tryz.func111 (by kernel_rfl) ⟨Zn9,⟨ZnN,⟨ZrT,⟨ZmQ,trivial⟩⟩⟩⟩
noncomputable def ZvR (x0 x1 x2 x3 x4 x5 x6 x7 x8 x9 x10 x11 x12 x13 x14 x15 x16 x17 x18 x19:Int) (x20:LL) (x21 x22 x23 x24 x25 x26:Int) (x27:Bool):Option (Bool):=ZsA.S.g [.i x0,.i x1,.i x2,.i x3,.i x4,.i x5,.i x6,.i x7,.i x8,.i x9,.i x10,.i x11,.i x12,.i x13,.i x14,.i x15,.i x16,.i x17,.i x18,.i x19,.l x20,.i x21,.i x22,.i x23,.i x24,.i x25,.i x26,.b x27]
theorem Zqi (x0 x1 x2 x3 x4 x5 x6 x7 x8 x9 x10 x11 x12 x13 x14 x15 x16 x17 x18 x19:Int) (x20:LL) (x21 x22 x23 x24 x25 x26:Int) (x27:Bool):ZvR x0 x1 x2 x3 x4 x5 x6 x7 x8 x9 x10 x11 x12 x13 x14 x15 x16 x17 x18 x19 x20 x21 x22 x23 x24 x25 x26 x27 =
 ((Zse x0 x1 x2).bind fun (r28:Bool)=>
 if (!r28)=true then
 some (false)
 else
 if (cop .lss x3 1)=true then
 some (false)
 else
 if (cop .gtr x3 6)=true then
 some (false)
 else
 (Zsj x15).bind fun (r29:Bool)=>
 if (!r29)=true then
 some (false)
 else
 if (cop .neq x16 32)=true then
 if (cop .neq x16 39)=true then
 some (false)
 else
 if (cop .eql x3 1)=true then
 (Zry x17 x18 x19 x20 x21 x22 x23 x24 x25 x26 x27 0 0 0 E0 0 0 0 0 0 0 false).bind fun (r30:Bool)=>
 some (r30)
 else
 (Zpw x17 x18 x19 x20 x21 x22 x23 x24 x25 x26 x27).bind fun (r30:Bool)=>
 some (r30)
 else
 if (cop .eql x3 1)=true then
 (Zry x17 x18 x19 x20 x21 x22 x23 x24 x25 x26 x27 0 0 0 E0 0 0 0 0 0 0 false).bind fun (r30:Bool)=>
 some (r30)
 else
 (Zpw x17 x18 x19 x20 x21 x22 x23 x24 x25 x26 x27).bind fun (r30:Bool)=>
 some (r30)):=by kernel_rfl
noncomputable def Zt5:Fn:=⟨9,[2],[],[],0,[],[],Tryz.f113,[.c (.int .i64)],[.c (.bool)],[]⟩
theorem ZsQ:Zt5.S.Ok Tryz.prog 113:=Zt5.ok Tryz.func113 (by kernel_rfl) trivial
noncomputable def ZvT (x0:Int):Option (Bool):=Zt5.S.g [.i x0]
theorem Zqr (x0:Int):ZvT x0 =
 (if (cop .geq x0 0)=true then
 some ((cop .leq x0 99))
 else
 some (false)):=by kernel_rfl
noncomputable def Zsw:Fn:=⟨9,[2],[],[],0,[],[],Tryz.f117,[.c (.int .i64)],[.c (.bool)],[]⟩
theorem ZuU:Zsw.S.Ok Tryz.prog 117:=Zsw.ok Tryz.func117 (by kernel_rfl) trivial
noncomputable def ZvM (x0:Int):Option (Bool):=Zsw.S.g [.i x0]
theorem Zq2 (x0:Int):ZvM x0 =
 (if (cop .geq x0 0)=true then
 some ((cop .lss x0 64))
 else
 some (false)):=by kernel_rfl
noncomputable def ZsL:Fn:=⟨19,[4],[(2,[(0,.c (.slice 1)),(1,.c (.int .i64)),(7,.c (.int .i64)),(8,.c (.int .i64))])],[],0,[],[],Tryz.f168,[.c (.slice 1),.c (.int .i64)],[.c (.int .i64)],[]⟩
theorem Zwy:ZsL.S.Ok Tryz.prog 168:=ZsL.ok Tryz.func168 (by kernel_rfl) trivial
noncomputable def Zxr (x0:LL) (x1:Int):Option (Int):=ZsL.S.g [.l x0,.i x1]
noncomputable def ZeU (k:Nat) (x0:LL) (x1 x2 x3:Int):Option (Int):=ZsL.lp [0] 0 r0 k [.l x0,.i x1,.i x2,.i x3]
theorem Zgd (k:Nat) (x0:LL) (x1 x2 x3:Int):ZeU (k+1) x0 x1 x2 x3 =
 (if (cop .lss x3 x2)=true then
 Zi x0 x3 [.int .i64] fun (r4:Int)=>
 if (cop .eql x1 r4)=true then
 some (x3)
 else
 ZeU k x0 x1 x2 (iop .add .i64 x3 1)
 else
 some ((-1))):=by kernel_rfl
theorem Zqv (x0:LL) (x1:Int):Zxr x0 x1 =
 (ZeU Zx x0 x1 (List.length x0:Int) 0):=by kernel_rfl
noncomputable def Zv2:Fn:=⟨9,[4],[],[],0,[],[],Tryz.f153,[.c (.slice 1),.c (.int .i64)],[.c (.bool)],[(168,ZsL.S)]⟩
theorem Zwd:Zv2.S.Ok Tryz.prog 153:=Zv2.ok Tryz.func153 (by kernel_rfl) ⟨Zwy,trivial⟩
noncomputable def ZwC (x0:LL) (x1:Int):Option (Bool):=Zv2.S.g [.l x0,.i x1]
theorem ZrQ (x0:LL) (x1:Int):ZwC x0 x1 =
 ((Zxr x0 x1).bind fun (r2:Int)=>
 some ((cop .geq r2 0))):=by kernel_rfl
noncomputable def Zv3:Fn:=⟨6,[2],[],[],0,[],[],Tryz.f154,[.c (.int .i64)],[.c (.bool)],[(67,F67.S)]⟩
theorem Zw3:Zv3.S.Ok Tryz.prog 154:=Zv3.ok Tryz.func154 (by kernel_rfl) ⟨Zp5,trivial⟩
noncomputable def Zx5 (x0:Int):Option (Bool):=Zv3.S.g [.i x0]
theorem Zq0 (x0:Int):Zx5 x0 =
 ((g67 x0).bind fun (r1:Bool)=>
 some ((!r1))):=by kernel_rfl
noncomputable def Zax:Fn:=⟨19,[4],[(2,[(0,.c (.slice 1)),(1,.clo 154 []),(7,.c (.int .i64)),(8,.c (.int .i64))])],[],0,[],[],Tryz.f152,[.c (.slice 1),.clo 154 []],[.c (.int .i64)],[(154,Zv3.S)]⟩
theorem ZlQ:Zax.S.Ok Tryz.prog 152:=Zax.ok Tryz.func152 (by kernel_rfl) ⟨Zw3,trivial⟩
noncomputable def Zfl (x0:LL):Option (Int):=Zax.S.g [.l x0]
noncomputable def Kt (k:Nat) (x0:LL) (x1 x2:Int):Option (Int):=Zax.lp [0] 0 r0 k [.l x0,.i x1,.i x2]
theorem ZaS (k:Nat) (x0:LL) (x1 x2:Int):Kt (k+1) x0 x1 x2 =
 (if (cop .lss x2 x1)=true then
 Zi x0 x2 [.int .i64] fun (r3:Int)=>
 (Zx5 r3).bind fun (r4:Bool)=>
 if r4=true then
 some (x2)
 else
 Kt k x0 x1 (iop .add .i64 x2 1)
 else
 some ((-1))):=by kernel_rfl
theorem Ziy (x0:LL):Zfl x0 =
 (Kt Zx x0 (List.length x0:Int) 0):=by kernel_rfl
noncomputable def Zcr:Fn:=⟨9,[4],[],[],0,[],[],Tryz.f121,[.c (.slice 1),.clo 154 []],[.c (.bool)],[(152,Zax.S)]⟩
theorem ZmK:Zcr.S.Ok Tryz.prog 121:=Zcr.ok Tryz.func121 (by kernel_rfl) ⟨ZlQ,trivial⟩
noncomputable def Zf8 (x0:LL):Option (Bool):=Zcr.S.g [.l x0]
theorem Zig (x0:LL):Zf8 x0 =
 ((Zfl x0).bind fun (r1:Int)=>
 some ((cop .geq r1 0))):=by kernel_rfl
noncomputable def Zsl:Fn:=⟨45,[2],[(4,[(1,.box [.int .i64,.slice 1,.slice 1]),(22,.c (.slice 1)),(23,.c (.int .i64)),(24,.c (.int .i64))])],[],0,[],[],Tryz.f126,[.agg [.int .i64,.slice 1,.slice 1]],[.c (.bool)],[(66,F66.S),(67,F67.S),(153,Zv2.S),(121,Zcr.S)]⟩
theorem Zs7:Zsl.S.Ok Tryz.prog 126:=Zsl.ok Tryz.func126 (by kernel_rfl) ⟨Zwu,⟨Zp5,⟨Zwd,⟨ZmK,trivial⟩⟩⟩⟩
noncomputable def ZsG (x0:Int) (x1 x2:LL):Option (Bool):=Zsl.S.g [.i x0,.l x1,.l x2]
noncomputable def Zdt (k:Nat) (x0:Int) (x1 x2 x3:LL) (x4 x5:Int):Option (Bool):=Zsl.lp [0,1,1,1,0] 0 r0 k [.i x0,.l x1,.l x2,.l x3,.i x4,.i x5]
theorem Zgv (k:Nat) (x0:Int) (x1 x2 x3:LL) (x4 x5:Int):Zdt (k+1) x0 x1 x2 x3 x4 x5 =
 (if (cop .lss x5 x4)=true then
 Zi x3 x5 [.int .i64] fun (r6:Int)=>
 (g67 r6).bind fun (r7:Bool)=>
 if (!r7)=true then
 some (false)
 else
 Zw ((0:Int)≤x5)<|
 Zw ((x5:Int)≤(List.length x1:Int))<|
 (ZwC (List.take (Int.toNat x5) x1) r6).bind fun (r8:Bool)=>
 if r8=true then
 some (false)
 else
 Zdt k x0 x1 x2 x3 x4 (iop .add .i64 x5 1)
 else
 (Zf8 x2).bind fun (r6:Bool)=>
 some ((!r6))):=by kernel_rfl
theorem Zrn (x0:Int) (x1 x2:LL):ZsG x0 x1 x2 =
 ((g66 x0).bind fun (r3:Bool)=>
 if (!r3)=true then
 some (false)
 else
 if (cop .gtr (List.length x1:Int) 32)=true then
 some (false)
 else
 if (cop .gtr (List.length x2:Int) 16)=true then
 some (false)
 else
 Zdt Zx x0 x1 x2 x1 (List.length x1:Int) 0):=by kernel_rfl
noncomputable def F72:Fn:=⟨8,[2],[],[],0,[],[],Tryz.f72,[.agg hs6],[.c (.bool)],[]⟩
theorem Zr9:F72.S.Ok Tryz.prog 72:=F72.ok Tryz.func72 (by kernel_rfl) trivial
noncomputable def g72 (x0 x1 x2:Int) (x3:LL) (x4 x5 x6 x7 x8 x9:Int) (x10:Bool) (x11 x12 x13 x14:Int):Option (Bool):=F72.S.g [.i x0,.i x1,.i x2,.l x3,.i x4,.i x5,.i x6,.i x7,.i x8,.i x9,.b x10,.i x11,.i x12,.i x13,.i x14]
theorem ZlJ (x0 x1 x2:Int) (x3:LL) (x4 x5 x6 x7 x8 x9:Int) (x10:Bool) (x11 x12 x13 x14:Int):g72 x0 x1 x2 x3 x4 x5 x6 x7 x8 x9 x10 x11 x12 x13 x14 =
 (some (((cop .eql x0 0)&&((cop .eql x1 0)&&((cop .eql x2 0)&&true))))):=by kernel_rfl
noncomputable def Zvx:Fn:=⟨43,[2],[],[],0,[],[],Tryz.f169,[.agg hs6],[.c (.bool)],[(72,F72.S),(148,Zr6.S),(116,Zpl.S),(120,Zrd.S)]⟩
theorem Zwj:Zvx.S.Ok Tryz.prog 169:=Zvx.ok Tryz.func169 (by kernel_rfl) ⟨Zr9,⟨ZrT,⟨ZmQ,⟨Zor,trivial⟩⟩⟩⟩
noncomputable def ZwP (x0 x1 x2:Int) (x3:LL) (x4 x5 x6 x7 x8 x9:Int) (x10:Bool) (x11 x12 x13 x14:Int):Option (Bool):=Zvx.S.g [.i x0,.i x1,.i x2,.l x3,.i x4,.i x5,.i x6,.i x7,.i x8,.i x9,.b x10,.i x11,.i x12,.i x13,.i x14]
theorem Zqq (x0 x1 x2:Int) (x3:LL) (x4 x5 x6 x7 x8 x9:Int) (x10:Bool) (x11 x12 x13 x14:Int):ZwP x0 x1 x2 x3 x4 x5 x6 x7 x8 x9 x10 x11 x12 x13 x14 =
 (if (cop .lss x11 0)=true then
 some (false)
 else
 if (cop .gtr x11 1073741824)=true then
 some (false)
 else
 (g72 x0 x1 x2 x3 x4 x5 x6 x7 x8 x9 x10 x11 x12 x13 x14).bind fun (r15:Bool)=>
 if r15=true then
 (Zry x0 x1 x2 x3 x4 x5 x6 x7 x8 x9 x10 0 0 0 E0 0 0 0 0 0 0 false).bind fun (r16:Bool)=>
 if r16=true then
 some (((cop .eql x12 0)&&((cop .eql x13 0)&&((cop .eql x14 0)&&true))))
 else
 some (false)
 else
 (Zpw x0 x1 x2 x3 x4 x5 x6 x7 x8 x9 x10).bind fun (r16:Bool)=>
 if r16=true then
 if ((cop .eql x12 0)&&((cop .eql x13 0)&&((cop .eql x14 0)&&true)))=true then
 some (true)
 else
 (ZrN x12 x13 x14).bind fun (r17:Bool)=>
 if r17=true then
 some ((cop .eql x14 0))
 else
 some (false)
 else
 some (false)):=by kernel_rfl
noncomputable def Zsb:Fn:=⟨27,[4,5],[(2,[(3,.box [.int .i64,.int .i64,.int .i64]),(8,.c (.slice 15)),(9,.c (.int .i64)),(10,.c (.int .i64))])],[],0,[],[],Tryz.f134,[.c (.slice 15),.agg [.int .i64,.int .i64,.int .i64]],[.c (.int .i64),.c (.bool)],[(72,F72.S)]⟩
theorem Zsq:Zsb.S.Ok Tryz.prog 134:=Zsb.ok Tryz.func134 (by kernel_rfl) ⟨Zr9,trivial⟩
noncomputable def ZvB (x0:LL) (x1 x2 x3:Int):Option (Int×Bool):=Zsb.S.g [.l x0,.i x1,.i x2,.i x3]
noncomputable def ZdN (k:Nat) (x0 x1 x2:Int) (x3:LL) (x4 x5:Int):Option (Int×Bool):=Zsb.lp [0] 0 r0 k [.i x0,.i x1,.i x2,.l x3,.i x4,.i x5]
theorem Zht (k:Nat) (x0 x1 x2:Int) (x3:LL) (x4 x5:Int):ZdN (k+1) x0 x1 x2 x3 x4 x5 =
 (if (cop .lss x5 x4)=true then
 Zi x3 x5 hs6 fun (r6:Qt11)=>
 (g72 r6.1 r6.2.1 r6.2.2.1 r6.2.2.2.1 r6.2.2.2.2.1 r6.2.2.2.2.2.1 r6.2.2.2.2.2.2.1 r6.2.2.2.2.2.2.2.1 r6.2.2.2.2.2.2.2.2.1 r6.2.2.2.2.2.2.2.2.2.1 r6.2.2.2.2.2.2.2.2.2.2.1 r6.2.2.2.2.2.2.2.2.2.2.2.1 (d4 (d8 r6)).1 (d4 (d8 r6)).2.1 (d2 (d4 (d8 r6)))).bind fun (r21:Bool)=>
 if (!r21)=true then
 if ((cop .eql r6.1 x0)&&((cop .eql r6.2.1 x1)&&((cop .eql r6.2.2.1 x2)&&true)))=true then
 some (x5,true)
 else
 ZdN k x0 x1 x2 x3 x4 (iop .add .i64 x5 1)
 else
 ZdN k x0 x1 x2 x3 x4 (iop .add .i64 x5 1)
 else
 some (0,false)):=by kernel_rfl
theorem Zq3 (x0:LL) (x1 x2 x3:Int):ZvB x0 x1 x2 x3 =
 (ZdN Zx x1 x2 x3 x0 (List.length x0:Int) 0):=by kernel_rfl
noncomputable def Zsn:Fn:=⟨32,[2],[(4,[(0,.c (.slice 15)),(10,.c (.slice 15)),(11,.c (.int .i64)),(12,.c (.int .i64))])],[],0,[],[],Tryz.f155,[.c (.slice 15)],[.c (.bool)],[(169,Zvx.S),(134,Zsb.S)]⟩
theorem ZwD:Zsn.S.Ok Tryz.prog 155:=Zsn.ok Tryz.func155 (by kernel_rfl) ⟨Zwj,⟨Zsq,trivial⟩⟩
noncomputable def Zw1 (x0:LL):Option (Bool):=Zsn.S.g [.l x0]
noncomputable def ZeI (k:Nat) (x0 x1:LL) (x2 x3:Int):Option (Bool):=Zsn.lp [1,0] 0 r0 k [.l x0,.l x1,.i x2,.i x3]
theorem Zg0 (k:Nat) (x0 x1:LL) (x2 x3:Int):ZeI (k+1) x0 x1 x2 x3 =
 (if (cop .lss x3 x2)=true then
 Zi x1 x3 hs6 fun (r4:Qt11)=>
 (ZwP r4.1 r4.2.1 r4.2.2.1 r4.2.2.2.1 r4.2.2.2.2.1 r4.2.2.2.2.2.1 r4.2.2.2.2.2.2.1 r4.2.2.2.2.2.2.2.1 r4.2.2.2.2.2.2.2.2.1 r4.2.2.2.2.2.2.2.2.2.1 r4.2.2.2.2.2.2.2.2.2.2.1 r4.2.2.2.2.2.2.2.2.2.2.2.1 (d4 (d8 r4)).1 (d4 (d8 r4)).2.1 (d2 (d4 (d8 r4)))).bind fun (r19:Bool)=>
 if (!r19)=true then
 some (false)
 else
 Zw ((0:Int)≤x3)<|
 Zw ((x3:Int)≤(List.length x0:Int))<|
 (ZvB (List.take (Int.toNat x3) x0) r4.1 r4.2.1 r4.2.2.1).bind fun (r20:Int×Bool)=>
 if r20.2=true then
 some (false)
 else
 ZeI k x0 x1 x2 (iop .add .i64 x3 1)
 else
 some (true)):=by kernel_rfl
theorem Zrc (x0:LL):Zw1 x0 =
 (if (cop .gtr (List.length x0:Int) 64)=true then
 some (false)
 else
 ZeI Zx x0 x0 (List.length x0:Int) 0):=by kernel_rfl
noncomputable def Zv4:Fn:=⟨6,[2],[],[],0,[],[],Tryz.f171,[.agg hs3],[.c (.bool)],[(111,ZsA.S)]⟩
theorem Zwr:Zv4.S.Ok Tryz.prog 171:=Zv4.ok Tryz.func171 (by kernel_rfl) ⟨Zu3,trivial⟩
noncomputable def Zxj (x0 x1 x2 x3 x4 x5 x6 x7 x8 x9 x10 x11 x12 x13 x14 x15 x16 x17 x18 x19:Int) (x20:LL) (x21 x22 x23 x24 x25 x26:Int) (x27:Bool):Option (Bool):=Zv4.S.g [.i x0,.i x1,.i x2,.i x3,.i x4,.i x5,.i x6,.i x7,.i x8,.i x9,.i x10,.i x11,.i x12,.i x13,.i x14,.i x15,.i x16,.i x17,.i x18,.i x19,.l x20,.i x21,.i x22,.i x23,.i x24,.i x25,.i x26,.b x27]
theorem ZqC (x0 x1 x2 x3 x4 x5 x6 x7 x8 x9 x10 x11 x12 x13 x14 x15 x16 x17 x18 x19:Int) (x20:LL) (x21 x22 x23 x24 x25 x26:Int) (x27:Bool):Zxj x0 x1 x2 x3 x4 x5 x6 x7 x8 x9 x10 x11 x12 x13 x14 x15 x16 x17 x18 x19 x20 x21 x22 x23 x24 x25 x26 x27 =
 ((ZvR x0 x1 x2 x3 x4 x5 x6 x7 x8 x9 x10 x11 x12 x13 x14 x15 x16 x17 x18 x19 x20 x21 x22 x23 x24 x25 x26 x27).bind fun (r28:Bool)=>
 some ((!r28))):=by kernel_rfl
noncomputable def Za7:Fn:=⟨19,[4],[(2,[(0,.c (.slice 28)),(1,.clo 171 []),(7,.c (.int .i64)),(8,.c (.int .i64))])],[],0,[],[],Tryz.f184,[.c (.slice 28),.clo 171 []],[.c (.int .i64)],[(171,Zv4.S)]⟩
theorem Zm9:Za7.S.Ok Tryz.prog 184:=Za7.ok Tryz.func184 (by kernel_rfl) ⟨Zwr,trivial⟩
noncomputable def Zfc (x0:LL):Option (Int):=Za7.S.g [.l x0]
noncomputable def Kx (k:Nat) (x0:LL) (x1 x2:Int):Option (Int):=Za7.lp [0] 0 r0 k [.l x0,.i x1,.i x2]
theorem Zav (k:Nat) (x0:LL) (x1 x2:Int):Kx (k+1) x0 x1 x2 =
 (if (cop .lss x2 x1)=true then
 Zi x0 x2 hs3 fun (r3:Qt5)=>
 (Zxj r3.1 r3.2.1 r3.2.2.1 r3.2.2.2.1 r3.2.2.2.2.1 r3.2.2.2.2.2.1 r3.2.2.2.2.2.2.1 r3.2.2.2.2.2.2.2.1 r3.2.2.2.2.2.2.2.2.1 r3.2.2.2.2.2.2.2.2.2.1 r3.2.2.2.2.2.2.2.2.2.2.1 r3.2.2.2.2.2.2.2.2.2.2.2.1 (d4 (d8 r3)).1 (d4 (d8 r3)).2.1 (d2 (d4 (d8 r3))).1 (d2 (d4 (d8 r3))).2.1 (d16 r3).1 (d16 r3).2.1 (d2 (d16 r3)).1 (d2 (d16 r3)).2.1 (d4 (d16 r3)).1 (d4 (d16 r3)).2.1 (d2 (d4 (d16 r3))).1 (d2 (d4 (d16 r3))).2.1 (d8 (d16 r3)).1 (d8 (d16 r3)).2.1 (d2 (d8 (d16 r3))).1 (d2 (d8 (d16 r3))).2).bind fun (r31:Bool)=>
 if r31=true then
 some (x2)
 else
 Kx k x0 x1 (iop .add .i64 x2 1)
 else
 some ((-1))):=by kernel_rfl
theorem ZiL (x0:LL):Zfc x0 =
 (Kx Zx x0 (List.length x0:Int) 0):=by kernel_rfl
noncomputable def Zcg:Fn:=⟨9,[4],[],[],0,[],[],Tryz.f170,[.c (.slice 28),.clo 171 []],[.c (.bool)],[(184,Za7.S)]⟩
theorem ZmP:Zcg.S.Ok Tryz.prog 170:=Zcg.ok Tryz.func170 (by kernel_rfl) ⟨Zm9,trivial⟩
noncomputable def Zfq (x0:LL):Option (Bool):=Zcg.S.g [.l x0]
theorem Zir (x0:LL):Zfq x0 =
 ((Zfc x0).bind fun (r1:Int)=>
 some ((cop .geq r1 0))):=by kernel_rfl
noncomputable def ZvI:Fn:=⟨6,[2],[],[],0,[],[],Tryz.f190,[.c (.int .i64)],[.c (.bool)],[]⟩
theorem ZwR:ZvI.S.Ok Tryz.prog 190:=ZvI.ok Tryz.func190 (by kernel_rfl) trivial
noncomputable def Zu9 (x0:Int):Option (Bool):=ZvI.S.g [.i x0]
theorem Zr4 (x0:Int):Zu9 x0 =
 (some ((cop .neq x0 x0))):=by kernel_rfl
noncomputable def ZvS:Fn:=⟨20,[4],[],[],0,[],[],Tryz.f189,[.c (.int .i64),.c (.int .i64)],[.c (.int .i64)],[(190,ZvI.S)]⟩
theorem Zxk:ZvS.S.Ok Tryz.prog 189:=ZvS.ok Tryz.func189 (by kernel_rfl) ⟨ZwR,trivial⟩
noncomputable def Zup (x0 x1:Int):Option (Int):=ZvS.S.g [.i x0,.i x1]
theorem Zr3 (x0 x1:Int):Zup x0 x1 =
 ((Zu9 x0).bind fun (r2:Bool)=>
 (Zu9 x1).bind fun (r3:Bool)=>
 if r2=true then
 if r3=true then
 some (0)
 else
 some ((-1))
 else
 if r3=true then
 some (1)
 else
 if (cop .lss x0 x1)=true then
 some ((-1))
 else
 if (cop .gtr x0 x1)=true then
 some (1)
 else
 some (0)):=by kernel_rfl
noncomputable def Zth:Fn:=⟨18,[2],[(3,[(3,.c (.int .i64)),(6,.c (.slice 1)),(7,.c (.int .i64)),(8,.c (.int .i64))])],[],0,[],[],Tryz.f188,[.c (.slice 1)],[.c (.int .i64)],[]⟩
theorem ZxA:Zth.S.Ok Tryz.prog 188:=Zth.ok Tryz.func188 (by kernel_rfl) trivial
noncomputable def ZwZ (x0:LL):Option (Int):=Zth.S.g [.l x0]
noncomputable def Zlv (k:Nat) (x0:Int) (x1:LL) (x2 x3:Int):Option (Int):=Zth.lp [0] 0 r0 k [.i x0,.l x1,.i x2,.i x3]
theorem Za9 (k:Nat) (x0:Int) (x1:LL) (x2 x3:Int):Zlv (k+1) x0 x1 x2 x3 =
 (if (cop .lss x3 x2)=true then
 Zi x1 x3 [.int .i64] fun (r4:Int)=>
 if (cop .neq r4 x0)=true then
 some (r4)
 else
 Zlv k x0 x1 x2 (iop .add .i64 x3 1)
 else
 some (x0)):=by kernel_rfl
theorem ZrL (x0:LL):ZwZ x0 =
 (Zlv Zx 0 x0 (List.length x0:Int) 0):=by kernel_rfl
noncomputable def Zv1:Fn:=⟨22,[4],[],[],0,[],[],Tryz.f185,[.agg [.int .i64,.int .i64,.int .i64],.agg [.int .i64,.int .i64,.int .i64]],[.c (.int .i64)],[(189,ZvS.S),(188,Zth.S)]⟩
theorem Zxs:Zv1.S.Ok Tryz.prog 185:=Zv1.ok Tryz.func185 (by kernel_rfl) ⟨Zxk,⟨ZxA,trivial⟩⟩
noncomputable def Zwb (x0 x1 x2 x3 x4 x5:Int):Option (Int):=Zv1.S.g [.i x0,.i x1,.i x2,.i x3,.i x4,.i x5]
theorem Zrm (x0 x1 x2 x3 x4 x5:Int):Zwb x0 x1 x2 x3 x4 x5 =
 ((Zup x0 x3).bind fun (r6:Int)=>
 (Zup x1 x4).bind fun (r7:Int)=>
 (Zup x2 x5).bind fun (r8:Int)=>
 (ZwZ (((E0++[[AV.val (.int .i64 r6)]])++[[AV.val (.int .i64 r7)]])++[[AV.val (.int .i64 r8)]])).bind fun (r9:Int)=>
 some (r9)):=by kernel_rfl
noncomputable def ZsP:Fn:=⟨9,[4],[],[],0,[],[],Tryz.f173,[.agg [.int .i64,.int .i64,.int .i64],.agg [.int .i64,.int .i64,.int .i64]],[.c (.bool)],[(185,Zv1.S)]⟩
theorem ZsY:ZsP.S.Ok Tryz.prog 173:=ZsP.ok Tryz.func173 (by kernel_rfl) ⟨Zxs,trivial⟩
noncomputable def Zvg (x0 x1 x2 x3 x4 x5:Int):Option (Bool):=ZsP.S.g [.i x0,.i x1,.i x2,.i x3,.i x4,.i x5]
theorem ZrS (x0 x1 x2 x3 x4 x5:Int):Zvg x0 x1 x2 x3 x4 x5 =
 ((Zwb x0 x1 x2 x3 x4 x5).bind fun (r6:Int)=>
 some ((cop .lss r6 0))):=by kernel_rfl
noncomputable def Zvl:Fn:=⟨17,[5],[],[2],0,[],[],Tryz.f172,[.c (.int .i64),.c (.int .i64),.box [.slice 28]],[.c (.bool)],[(173,ZsP.S)]⟩
theorem Zyn:Zvl.S.Ok Tryz.prog 172:=Zvl.ok Tryz.func172 (by kernel_rfl) ⟨ZsY,trivial⟩
noncomputable def Zwq (x0 x1:Int) (x2:LL):Option (Bool×LL):=Zvl.S.g [.i x0,.i x1,.l x2]
theorem ZqG (x0 x1:Int) (x2:LL):Zwq x0 x1 x2 =
 (Zi x2 x0 hs3 fun (r3:Qt5)=>
 Zi x2 x1 hs3 fun (r31:Qt5)=>
 (Zvg r3.1 r3.2.1 r3.2.2.1 r31.1 r31.2.1 r31.2.2.1).bind fun (r59:Bool)=>
 some (r59,x2)):=by kernel_rfl
noncomputable def ZaC:Fn:=⟨17,[4],[(2,[(0,.c (.int .i64)),(1,.clo 172 [17]),(5,.c (.int .i64)),(17,.gbox [.slice 28])])],[],1,[],[],Tryz.f123,[.c (.int .i64),.clo 172 [17],.dead,.dead,.dead,.dead,.dead,.dead,.dead,.dead,.dead,.dead,.dead,.dead,.dead,.dead,.dead,.gbox [.slice 28]],[.c (.bool)],[(172,Zvl.S)]⟩
theorem Znr:ZaC.S.Ok Tryz.prog 123:=ZaC.ok Tryz.func123 (by kernel_rfl) ⟨Zyn,trivial⟩
noncomputable def ZfC (x0:Int) (x1:LL):Option (Bool×LL):=ZaC.S.g [.i x0,.l x1]
noncomputable def Ks (k:Nat) (x0 x1:Int) (x2:LL):Option (Bool×LL):=ZaC.lp [0] 0 r0 k [.i x0,.i x1,.l x2]
theorem Zat (k:Nat) (x0 x1:Int) (x2:LL):Ks (k+1) x0 x1 x2 =
 (if (cop .lss x1 x0)=true then
 (Zwq (iop .sub .i64 x1 1) x1 x2).bind fun (r3:Bool×LL)=>
 if (!r3.1)=true then
 some (false,r3.2)
 else
 Ks k x0 (iop .add .i64 x1 1) r3.2
 else
 some (true,x2)):=by kernel_rfl
theorem ZhT (x0:Int) (x1:LL):ZfC x0 x1 =
 (Ks Zx x0 1 x1):=by kernel_rfl
noncomputable def Zvo:Fn:=⟨12,[2],[],[],0,[],[],Tryz.f156,[.c (.slice 28)],[.c (.bool)],[(170,Zcg.S),(123,ZaC.S)]⟩
theorem ZwW:Zvo.S.Ok Tryz.prog 156:=Zvo.ok Tryz.func156 (by kernel_rfl) ⟨ZmP,⟨Znr,trivial⟩⟩
noncomputable def Zyr (x0:LL):Option (Bool):=Zvo.S.g [.l x0]
theorem ZpQ (x0:LL):Zyr x0 =
 ((Zfq x0).bind fun (r1:Bool)=>
 if (!r1)=true then
 (ZfC (List.length x0:Int) x0).bind fun (r2:Bool×LL)=>
 some (r2.1)
 else
 some (false)):=by kernel_rfl
noncomputable def ZvA:Fn:=⟨13,[2],[],[],0,[],[],Tryz.f175,[.agg [.int .i64,.int .i64,.int .i64,.int .i64]],[.c (.bool)],[(110,ZrV.S),(112,Zq1.S)]⟩
theorem Zxt:ZvA.S.Ok Tryz.prog 175:=ZvA.ok Tryz.func175 (by kernel_rfl) ⟨ZnN,⟨Zn9,trivial⟩⟩
noncomputable def Zxe (x0 x1 x2 x3:Int):Option (Bool):=ZvA.S.g [.i x0,.i x1,.i x2,.i x3]
theorem ZpS (x0 x1 x2 x3:Int):Zxe x0 x1 x2 x3 =
 ((Zsj x0).bind fun (r4:Bool)=>
 if (!r4)=true then
 some (true)
 else
 (Zse x1 x2 x3).bind fun (r5:Bool)=>
 some ((!r5))):=by kernel_rfl
noncomputable def ZaU:Fn:=⟨19,[4],[(2,[(0,.c (.slice 4)),(1,.clo 175 []),(7,.c (.int .i64)),(8,.c (.int .i64))])],[],0,[],[],Tryz.f135,[.c (.slice 4),.clo 175 []],[.c (.int .i64)],[(175,ZvA.S)]⟩
theorem ZlK:ZaU.S.Ok Tryz.prog 135:=ZaU.ok Tryz.func135 (by kernel_rfl) ⟨Zxt,trivial⟩
noncomputable def Zf4 (x0:LL):Option (Int):=ZaU.S.g [.l x0]
noncomputable def Ky (k:Nat) (x0:LL) (x1 x2:Int):Option (Int):=ZaU.lp [0] 0 r0 k [.l x0,.i x1,.i x2]
theorem ZaF (k:Nat) (x0:LL) (x1 x2:Int):Ky (k+1) x0 x1 x2 =
 (if (cop .lss x2 x1)=true then
 Zi x0 x2 [.int .i64,.int .i64,.int .i64,.int .i64] fun (r3:Int×Int×Int×Int)=>
 (Zxe r3.1 r3.2.1 r3.2.2.1 r3.2.2.2).bind fun (r7:Bool)=>
 if r7=true then
 some (x2)
 else
 Ky k x0 x1 (iop .add .i64 x2 1)
 else
 some ((-1))):=by kernel_rfl
theorem ZiB (x0:LL):Zf4 x0 =
 (Ky Zx x0 (List.length x0:Int) 0):=by kernel_rfl
noncomputable def Zch:Fn:=⟨9,[4],[],[],0,[],[],Tryz.f174,[.c (.slice 4),.clo 175 []],[.c (.bool)],[(135,ZaU.S)]⟩
theorem ZmH:Zch.S.Ok Tryz.prog 174:=Zch.ok Tryz.func174 (by kernel_rfl) ⟨ZlK,trivial⟩
noncomputable def ZfF (x0:LL):Option (Bool):=Zch.S.g [.l x0]
theorem Zh6 (x0:LL):ZfF x0 =
 ((Zf4 x0).bind fun (r1:Int)=>
 some ((cop .geq r1 0))):=by kernel_rfl
noncomputable def Zvt:Fn:=⟨17,[5],[],[2],0,[],[],Tryz.f176,[.c (.int .i64),.c (.int .i64),.box [.slice 4]],[.c (.bool)],[]⟩
theorem Zwi:Zvt.S.Ok Tryz.prog 176:=Zvt.ok Tryz.func176 (by kernel_rfl) trivial
noncomputable def Zxh (x0 x1:Int) (x2:LL):Option (Bool×LL):=Zvt.S.g [.i x0,.i x1,.l x2]
theorem Zr0 (x0 x1:Int) (x2:LL):Zxh x0 x1 x2 =
 (Zi x2 x0 [.int .i64,.int .i64,.int .i64,.int .i64] fun (r3:Int×Int×Int×Int)=>
 Zi x2 x1 [.int .i64,.int .i64,.int .i64,.int .i64] fun (r7:Int×Int×Int×Int)=>
 some ((cop .lss r3.1 r7.1),x2)):=by kernel_rfl
noncomputable def ZaX:Fn:=⟨17,[4],[(2,[(0,.c (.int .i64)),(1,.clo 176 [17]),(5,.c (.int .i64)),(17,.gbox [.slice 4])])],[],1,[],[],Tryz.f123,[.c (.int .i64),.clo 176 [17],.dead,.dead,.dead,.dead,.dead,.dead,.dead,.dead,.dead,.dead,.dead,.dead,.dead,.dead,.dead,.gbox [.slice 4]],[.c (.bool)],[(176,Zvt.S)]⟩
theorem Zmv:ZaX.S.Ok Tryz.prog 123:=ZaX.ok Tryz.func123 (by kernel_rfl) ⟨Zwi,trivial⟩
noncomputable def ZfL (x0:Int) (x1:LL):Option (Bool×LL):=ZaX.S.g [.i x0,.l x1]
noncomputable def Kv (k:Nat) (x0 x1:Int) (x2:LL):Option (Bool×LL):=ZaX.lp [0] 0 r0 k [.i x0,.i x1,.l x2]
theorem Zbj (k:Nat) (x0 x1:Int) (x2:LL):Kv (k+1) x0 x1 x2 =
 (if (cop .lss x1 x0)=true then
 (Zxh (iop .sub .i64 x1 1) x1 x2).bind fun (r3:Bool×LL)=>
 if (!r3.1)=true then
 some (false,r3.2)
 else
 Kv k x0 (iop .add .i64 x1 1) r3.2
 else
 some (true,x2)):=by kernel_rfl
theorem ZiG (x0:Int) (x1:LL):ZfL x0 x1 =
 (Kv Zx x0 1 x1):=by kernel_rfl
noncomputable def ZvU:Fn:=⟨12,[2],[],[],0,[],[],Tryz.f157,[.c (.slice 4)],[.c (.bool)],[(174,Zch.S),(123,ZaX.S)]⟩
theorem Zxb:ZvU.S.Ok Tryz.prog 157:=ZvU.ok Tryz.func157 (by kernel_rfl) ⟨ZmH,⟨Zmv,trivial⟩⟩
noncomputable def Zwg (x0:LL):Option (Bool):=ZvU.S.g [.l x0]
theorem Zrf (x0:LL):Zwg x0 =
 ((ZfF x0).bind fun (r1:Bool)=>
 if (!r1)=true then
 (ZfL (List.length x0:Int) x0).bind fun (r2:Bool×LL)=>
 some (r2.1)
 else
 some (false)):=by kernel_rfl
noncomputable def Zvw:Fn:=⟨17,[2],[],[],0,[],[],Tryz.f178,[.agg [.int .i64,.int .i64]],[.c (.bool)],[(113,Zt5.S)]⟩
theorem Zye:Zvw.S.Ok Tryz.prog 178:=Zvw.ok Tryz.func178 (by kernel_rfl) ⟨ZsQ,trivial⟩
noncomputable def Zxz (x0 x1:Int):Option (Bool):=Zvw.S.g [.i x0,.i x1]
theorem ZrC (x0 x1:Int):Zxz x0 x1 =
 (if (cop .lss x0 1)=true then
 some (true)
 else
 if (cop .gtr x0 1073741824)=true then
 some (true)
 else
 (ZvT x1).bind fun (r2:Bool)=>
 some ((!r2))):=by kernel_rfl
noncomputable def Zbb:Fn:=⟨19,[4],[(2,[(0,.c (.slice 2)),(1,.clo 178 []),(7,.c (.int .i64)),(8,.c (.int .i64))])],[],0,[],[],Tryz.f186,[.c (.slice 2),.clo 178 []],[.c (.int .i64)],[(178,Zvw.S)]⟩
theorem Zlx:Zbb.S.Ok Tryz.prog 186:=Zbb.ok Tryz.func186 (by kernel_rfl) ⟨Zye,trivial⟩
noncomputable def ZfH (x0:LL):Option (Int):=Zbb.S.g [.l x0]
noncomputable def Kq (k:Nat) (x0:LL) (x1 x2:Int):Option (Int):=Zbb.lp [0] 0 r0 k [.l x0,.i x1,.i x2]
theorem Zas (k:Nat) (x0:LL) (x1 x2:Int):Kq (k+1) x0 x1 x2 =
 (if (cop .lss x2 x1)=true then
 Zi x0 x2 [.int .i64,.int .i64] fun (r3:Int×Int)=>
 (Zxz r3.1 r3.2).bind fun (r5:Bool)=>
 if r5=true then
 some (x2)
 else
 Kq k x0 x1 (iop .add .i64 x2 1)
 else
 some ((-1))):=by kernel_rfl
theorem Zh9 (x0:LL):ZfH x0 =
 (Kq Zx x0 (List.length x0:Int) 0):=by kernel_rfl
noncomputable def ZcB:Fn:=⟨9,[4],[],[],0,[],[],Tryz.f177,[.c (.slice 2),.clo 178 []],[.c (.bool)],[(186,Zbb.S)]⟩
theorem Zma:ZcB.S.Ok Tryz.prog 177:=ZcB.ok Tryz.func177 (by kernel_rfl) ⟨Zlx,trivial⟩
noncomputable def Zfa (x0:LL):Option (Bool):=ZcB.S.g [.l x0]
theorem ZhG (x0:LL):Zfa x0 =
 ((ZfH x0).bind fun (r1:Int)=>
 some ((cop .geq r1 0))):=by kernel_rfl
noncomputable def Zvf:Fn:=⟨17,[5],[],[2],0,[],[],Tryz.f179,[.c (.int .i64),.c (.int .i64),.box [.slice 2]],[.c (.bool)],[]⟩
theorem Zyf:Zvf.S.Ok Tryz.prog 179:=Zvf.ok Tryz.func179 (by kernel_rfl) trivial
noncomputable def ZxV (x0 x1:Int) (x2:LL):Option (Bool×LL):=Zvf.S.g [.i x0,.i x1,.l x2]
theorem ZqP (x0 x1:Int) (x2:LL):ZxV x0 x1 x2 =
 (Zi x2 x0 [.int .i64,.int .i64] fun (r3:Int×Int)=>
 Zi x2 x1 [.int .i64,.int .i64] fun (r5:Int×Int)=>
 some ((cop .lss r3.1 r5.1),x2)):=by kernel_rfl
noncomputable def ZaK:Fn:=⟨17,[4],[(2,[(0,.c (.int .i64)),(1,.clo 179 [17]),(5,.c (.int .i64)),(17,.gbox [.slice 2])])],[],1,[],[],Tryz.f123,[.c (.int .i64),.clo 179 [17],.dead,.dead,.dead,.dead,.dead,.dead,.dead,.dead,.dead,.dead,.dead,.dead,.dead,.dead,.dead,.gbox [.slice 2]],[.c (.bool)],[(179,Zvf.S)]⟩
theorem ZmN:ZaK.S.Ok Tryz.prog 123:=ZaK.ok Tryz.func123 (by kernel_rfl) ⟨Zyf,trivial⟩
noncomputable def Zf5 (x0:Int) (x1:LL):Option (Bool×LL):=ZaK.S.g [.i x0,.l x1]
noncomputable def KH (k:Nat) (x0 x1:Int) (x2:LL):Option (Bool×LL):=ZaK.lp [0] 0 r0 k [.i x0,.i x1,.l x2]
theorem Zai (k:Nat) (x0 x1:Int) (x2:LL):KH (k+1) x0 x1 x2 =
 (if (cop .lss x1 x0)=true then
 (ZxV (iop .sub .i64 x1 1) x1 x2).bind fun (r3:Bool×LL)=>
 if (!r3.1)=true then
 some (false,r3.2)
 else
 KH k x0 (iop .add .i64 x1 1) r3.2
 else
 some (true,x2)):=by kernel_rfl
theorem ZiP (x0:Int) (x1:LL):Zf5 x0 x1 =
 (KH Zx x0 1 x1):=by kernel_rfl
noncomputable def Zvr:Fn:=⟨12,[2],[],[],0,[],[],Tryz.f158,[.c (.slice 2)],[.c (.bool)],[(177,ZcB.S),(123,ZaK.S)]⟩
theorem Zxq:Zvr.S.Ok Tryz.prog 158:=Zvr.ok Tryz.func158 (by kernel_rfl) ⟨Zma,⟨ZmN,trivial⟩⟩
noncomputable def Zxm (x0:LL):Option (Bool):=Zvr.S.g [.l x0]
theorem ZpT (x0:LL):Zxm x0 =
 ((Zfa x0).bind fun (r1:Bool)=>
 if (!r1)=true then
 (Zf5 (List.length x0:Int) x0).bind fun (r2:Bool×LL)=>
 some (r2.1)
 else
 some (false)):=by kernel_rfl
noncomputable def ZvE:Fn:=⟨19,[2],[],[],0,[],[],Tryz.f181,[.agg hs7],[.c (.bool)],[(67,F67.S),(117,Zsw.S),(116,Zpl.S)]⟩
theorem ZwB:ZvE.S.Ok Tryz.prog 181:=ZvE.ok Tryz.func181 (by kernel_rfl) ⟨Zp5,⟨ZuU,⟨ZmQ,trivial⟩⟩⟩
noncomputable def Zxd (x0 x1 x2 x3 x4:Int) (x5:LL) (x6 x7 x8 x9 x10 x11:Int) (x12:Bool):Option (Bool):=ZvE.S.g [.i x0,.i x1,.i x2,.i x3,.i x4,.l x5,.i x6,.i x7,.i x8,.i x9,.i x10,.i x11,.b x12]
theorem ZqO (x0 x1 x2 x3 x4:Int) (x5:LL) (x6 x7 x8 x9 x10 x11:Int) (x12:Bool):Zxd x0 x1 x2 x3 x4 x5 x6 x7 x8 x9 x10 x11 x12 =
 ((g67 x0).bind fun (r13:Bool)=>
 if (!r13)=true then
 some (true)
 else
 (ZvM x1).bind fun (r14:Bool)=>
 if (!r14)=true then
 some (true)
 else
 (Zpw x2 x3 x4 x5 x6 x7 x8 x9 x10 x11 x12).bind fun (r15:Bool)=>
 some ((!r15))):=by kernel_rfl
noncomputable def Zbd:Fn:=⟨19,[4],[(2,[(0,.c (.slice 13)),(1,.clo 181 []),(7,.c (.int .i64)),(8,.c (.int .i64))])],[],0,[],[],Tryz.f187,[.c (.slice 13),.clo 181 []],[.c (.int .i64)],[(181,ZvE.S)]⟩
theorem Znb:Zbd.S.Ok Tryz.prog 187:=Zbd.ok Tryz.func187 (by kernel_rfl) ⟨ZwB,trivial⟩
noncomputable def Zga (x0:LL):Option (Int):=Zbd.S.g [.l x0]
noncomputable def KF (k:Nat) (x0:LL) (x1 x2:Int):Option (Int):=Zbd.lp [0] 0 r0 k [.l x0,.i x1,.i x2]
theorem Zal (k:Nat) (x0:LL) (x1 x2:Int):KF (k+1) x0 x1 x2 =
 (if (cop .lss x2 x1)=true then
 Zi x0 x2 hs7 fun (r3:Qt12)=>
 (Zxd r3.1 r3.2.1 r3.2.2.1 r3.2.2.2.1 r3.2.2.2.2.1 r3.2.2.2.2.2.1 r3.2.2.2.2.2.2.1 r3.2.2.2.2.2.2.2.1 r3.2.2.2.2.2.2.2.2.1 r3.2.2.2.2.2.2.2.2.2.1 r3.2.2.2.2.2.2.2.2.2.2.1 r3.2.2.2.2.2.2.2.2.2.2.2.1 (d4 (d8 r3))).bind fun (r16:Bool)=>
 if r16=true then
 some (x2)
 else
 KF k x0 x1 (iop .add .i64 x2 1)
 else
 some ((-1))):=by kernel_rfl
theorem ZiQ (x0:LL):Zga x0 =
 (KF Zx x0 (List.length x0:Int) 0):=by kernel_rfl
noncomputable def Zcc:Fn:=⟨9,[4],[],[],0,[],[],Tryz.f180,[.c (.slice 13),.clo 181 []],[.c (.bool)],[(187,Zbd.S)]⟩
theorem Zm8:Zcc.S.Ok Tryz.prog 180:=Zcc.ok Tryz.func180 (by kernel_rfl) ⟨Znb,trivial⟩
noncomputable def ZfI (x0:LL):Option (Bool):=Zcc.S.g [.l x0]
theorem ZhM (x0:LL):ZfI x0 =
 ((Zga x0).bind fun (r1:Int)=>
 some ((cop .geq r1 0))):=by kernel_rfl
noncomputable def ZvD:Fn:=⟨19,[5],[],[2],0,[],[],Tryz.f182,[.c (.int .i64),.c (.int .i64),.box [.slice 13]],[.c (.bool)],[(173,ZsP.S)]⟩
theorem ZwE:ZvD.S.Ok Tryz.prog 182:=ZvD.ok Tryz.func182 (by kernel_rfl) ⟨ZsY,trivial⟩
noncomputable def ZwS (x0 x1:Int) (x2:LL):Option (Bool×LL):=ZvD.S.g [.i x0,.i x1,.l x2]
theorem ZpU (x0 x1:Int) (x2:LL):ZwS x0 x1 x2 =
 (Zi x2 x0 hs7 fun (r3:Qt12)=>
 Zi x2 x1 hs7 fun (r16:Qt12)=>
 (Zvg r3.2.2.1 r3.2.2.2.1 r3.2.2.2.2.1 r16.2.2.1 r16.2.2.2.1 r16.2.2.2.2.1).bind fun (r29:Bool)=>
 some (r29,x2)):=by kernel_rfl
noncomputable def ZaD:Fn:=⟨17,[4],[(2,[(0,.c (.int .i64)),(1,.clo 182 [17]),(5,.c (.int .i64)),(17,.gbox [.slice 13])])],[],1,[],[],Tryz.f123,[.c (.int .i64),.clo 182 [17],.dead,.dead,.dead,.dead,.dead,.dead,.dead,.dead,.dead,.dead,.dead,.dead,.dead,.dead,.dead,.gbox [.slice 13]],[.c (.bool)],[(182,ZvD.S)]⟩
theorem ZmD:ZaD.S.Ok Tryz.prog 123:=ZaD.ok Tryz.func123 (by kernel_rfl) ⟨ZwE,trivial⟩
noncomputable def ZfE (x0:Int) (x1:LL):Option (Bool×LL):=ZaD.S.g [.i x0,.l x1]
noncomputable def Kr (k:Nat) (x0 x1:Int) (x2:LL):Option (Bool×LL):=ZaD.lp [0] 0 r0 k [.i x0,.i x1,.l x2]
theorem Za8 (k:Nat) (x0 x1:Int) (x2:LL):Kr (k+1) x0 x1 x2 =
 (if (cop .lss x1 x0)=true then
 (ZwS (iop .sub .i64 x1 1) x1 x2).bind fun (r3:Bool×LL)=>
 if (!r3.1)=true then
 some (false,r3.2)
 else
 Kr k x0 (iop .add .i64 x1 1) r3.2
 else
 some (true,x2)):=by kernel_rfl
theorem ZiM (x0:Int) (x1:LL):ZfE x0 x1 =
 (Kr Zx x0 1 x1):=by kernel_rfl
noncomputable def Zvb:Fn:=⟨12,[2],[],[],0,[],[],Tryz.f159,[.c (.slice 13)],[.c (.bool)],[(180,Zcc.S),(123,ZaD.S)]⟩
theorem ZwY:Zvb.S.Ok Tryz.prog 159:=Zvb.ok Tryz.func159 (by kernel_rfl) ⟨Zm8,⟨ZmD,trivial⟩⟩
noncomputable def ZxL (x0:LL):Option (Bool):=Zvb.S.g [.l x0]
theorem ZrG (x0:LL):ZxL x0 =
 ((ZfI x0).bind fun (r1:Bool)=>
 if (!r1)=true then
 (ZfE (List.length x0:Int) x0).bind fun (r2:Bool×LL)=>
 some (r2.1)
 else
 some (false)):=by kernel_rfl
noncomputable def ZvF:Fn:=⟨6,[2],[],[],0,[],[],Tryz.f160,[.agg [.int .i64,.int .i64,.int .i64]],[.c (.bool)],[(112,Zq1.S)]⟩
theorem ZwG:ZvF.S.Ok Tryz.prog 160:=ZvF.ok Tryz.func160 (by kernel_rfl) ⟨Zn9,trivial⟩
noncomputable def Zxf (x0 x1 x2:Int):Option (Bool):=ZvF.S.g [.i x0,.i x1,.i x2]
theorem ZqS (x0 x1 x2:Int):Zxf x0 x1 x2 =
 ((Zse x0 x1 x2).bind fun (r3:Bool)=>
 some ((!r3))):=by kernel_rfl
noncomputable def Zao:Fn:=⟨19,[4],[(2,[(0,.c (.slice 3)),(1,.clo 160 []),(7,.c (.int .i64)),(8,.c (.int .i64))])],[],0,[],[],Tryz.f151,[.c (.slice 3),.clo 160 []],[.c (.int .i64)],[(160,ZvF.S)]⟩
theorem ZlY:Zao.S.Ok Tryz.prog 151:=Zao.ok Tryz.func151 (by kernel_rfl) ⟨ZwG,trivial⟩
noncomputable def ZfD (x0:LL):Option (Int):=Zao.S.g [.l x0]
noncomputable def KD (k:Nat) (x0:LL) (x1 x2:Int):Option (Int):=Zao.lp [0] 0 r0 k [.l x0,.i x1,.i x2]
theorem Za5 (k:Nat) (x0:LL) (x1 x2:Int):KD (k+1) x0 x1 x2 =
 (if (cop .lss x2 x1)=true then
 Zi x0 x2 [.int .i64,.int .i64,.int .i64] fun (r3:Int×Int×Int)=>
 (Zxf r3.1 r3.2.1 r3.2.2).bind fun (r6:Bool)=>
 if r6=true then
 some (x2)
 else
 KD k x0 x1 (iop .add .i64 x2 1)
 else
 some ((-1))):=by kernel_rfl
theorem Zin (x0:LL):ZfD x0 =
 (KD Zx x0 (List.length x0:Int) 0):=by kernel_rfl
noncomputable def Zca:Fn:=⟨9,[4],[],[],0,[],[],Tryz.f118,[.c (.slice 3),.clo 160 []],[.c (.bool)],[(151,Zao.S)]⟩
theorem Znn:Zca.S.Ok Tryz.prog 118:=Zca.ok Tryz.func118 (by kernel_rfl) ⟨ZlY,trivial⟩
noncomputable def Zfr (x0:LL):Option (Bool):=Zca.S.g [.l x0]
theorem ZhL (x0:LL):Zfr x0 =
 ((ZfD x0).bind fun (r1:Int)=>
 some ((cop .geq r1 0))):=by kernel_rfl
noncomputable def ZsH:Fn:=⟨32,[2],[],[],0,[],[],Tryz.f127,[.agg hs16],[.c (.bool)],[(155,Zsn.S),(156,Zvo.S),(157,ZvU.S),(158,Zvr.S),(159,Zvb.S),(118,Zca.S)]⟩
theorem Zts:ZsH.S.Ok Tryz.prog 127:=ZsH.ok Tryz.func127 (by kernel_rfl) ⟨ZwD,⟨ZwW,⟨Zxb,⟨Zxq,⟨ZwY,⟨Znn,trivial⟩⟩⟩⟩⟩⟩
noncomputable def ZuQ (x0 x1 x2 x3 x4 x5:LL):Option (Bool):=ZsH.S.g [.l x0,.l x1,.l x2,.l x3,.l x4,.l x5]
theorem ZrE (x0 x1 x2 x3 x4 x5:LL):ZuQ x0 x1 x2 x3 x4 x5 =
 ((Zw1 x0).bind fun (r6:Bool)=>
 if r6=true then
 (Zyr x1).bind fun (r7:Bool)=>
 if r7=true then
 (Zwg x2).bind fun (r8:Bool)=>
 if r8=true then
 (Zxm x3).bind fun (r9:Bool)=>
 if r9=true then
 (ZxL x4).bind fun (r10:Bool)=>
 if r10=true then
 (Zfr x5).bind fun (r11:Bool)=>
 some ((!r11))
 else
 some (false)
 else
 some (false)
 else
 some (false)
 else
 some (false)
 else
 some (false)):=by kernel_rfl
noncomputable def Zvu:Fn:=⟨26,[2],[],[],0,[],[],Tryz.f125,[.agg hs4],[.c (.bool)],[(67,F67.S),(126,Zsl.S),(127,ZsH.S)]⟩
theorem ZxC:Zvu.S.Ok Tryz.prog 125:=Zvu.ok Tryz.func125 (by kernel_rfl) ⟨Zp5,⟨Zs7,⟨Zts,trivial⟩⟩⟩
noncomputable def Zxu (x0 x1:Int) (x2 x3 x4 x5 x6 x7 x8 x9:LL) (x10:Bool) (x11:Int) (x12 x13 x14 x15 x16 x17 x18 x19:LL):Option (Bool):=Zvu.S.g [.i x0,.i x1,.l x2,.l x3,.l x4,.l x5,.l x6,.l x7,.l x8,.l x9,.b x10,.i x11,.l x12,.l x13,.l x14,.l x15,.l x16,.l x17,.l x18,.l x19]
theorem ZpY (x0 x1:Int) (x2 x3 x4 x5 x6 x7 x8 x9:LL) (x10:Bool) (x11:Int) (x12 x13 x14 x15 x16 x17 x18 x19:LL):Zxu x0 x1 x2 x3 x4 x5 x6 x7 x8 x9 x10 x11 x12 x13 x14 x15 x16 x17 x18 x19 =
 ((g67 x0).bind fun (r20:Bool)=>
 if r20=true then
 (ZsG x1 x2 x3).bind fun (r21:Bool)=>
 if r21=true then
 (ZuQ x4 x5 x6 x7 x8 x9).bind fun (r22:Bool)=>
 if r22=true then
 (ZsG x11 x12 x13).bind fun (r23:Bool)=>
 if r23=true then
 (ZuQ x14 x15 x16 x17 x18 x19).bind fun (r24:Bool)=>
 some (r24)
 else
 some (false)
 else
 some (false)
 else
 some (false)
 else
 some (false)):=by kernel_rfl
noncomputable def Zvc:Fn:=⟨6,[2],[],[],0,[],[],Tryz.f115,[.agg hs8],[.c (.bool)],[(116,Zpl.S)]⟩
theorem Zw0:Zvc.S.Ok Tryz.prog 115:=Zvc.ok Tryz.func115 (by kernel_rfl) ⟨ZmQ,trivial⟩
noncomputable def Zxc (x0 x1 x2:Int) (x3:LL) (x4 x5 x6 x7 x8 x9:Int) (x10:Bool):Option (Bool):=Zvc.S.g [.i x0,.i x1,.i x2,.l x3,.i x4,.i x5,.i x6,.i x7,.i x8,.i x9,.b x10]
theorem Zro (x0 x1 x2:Int) (x3:LL) (x4 x5 x6 x7 x8 x9:Int) (x10:Bool):Zxc x0 x1 x2 x3 x4 x5 x6 x7 x8 x9 x10 =
 ((Zpw x0 x1 x2 x3 x4 x5 x6 x7 x8 x9 x10).bind fun (r11:Bool)=>
 some ((!r11))):=by kernel_rfl
noncomputable def ZaP:Fn:=⟨19,[4],[(2,[(0,.c (.slice 11)),(1,.clo 115 []),(7,.c (.int .i64)),(8,.c (.int .i64))])],[],0,[],[],Tryz.f149,[.c (.slice 11),.clo 115 []],[.c (.int .i64)],[(115,Zvc.S)]⟩
theorem Zmx:ZaP.S.Ok Tryz.prog 149:=ZaP.ok Tryz.func149 (by kernel_rfl) ⟨Zw0,trivial⟩
noncomputable def Zf0 (x0:LL):Option (Int):=ZaP.S.g [.l x0]
noncomputable def KE (k:Nat) (x0:LL) (x1 x2:Int):Option (Int):=ZaP.lp [0] 0 r0 k [.l x0,.i x1,.i x2]
theorem ZaJ (k:Nat) (x0:LL) (x1 x2:Int):KE (k+1) x0 x1 x2 =
 (if (cop .lss x2 x1)=true then
 Zi x0 x2 hs8 fun (r3:Qt17)=>
 (Zxc r3.1 r3.2.1 r3.2.2.1 r3.2.2.2.1 r3.2.2.2.2.1 r3.2.2.2.2.2.1 r3.2.2.2.2.2.2.1 r3.2.2.2.2.2.2.2.1 r3.2.2.2.2.2.2.2.2.1 r3.2.2.2.2.2.2.2.2.2.1 r3.2.2.2.2.2.2.2.2.2.2).bind fun (r14:Bool)=>
 if r14=true then
 some (x2)
 else
 KE k x0 x1 (iop .add .i64 x2 1)
 else
 some ((-1))):=by kernel_rfl
theorem ZiU (x0:LL):Zf0 x0 =
 (KE Zx x0 (List.length x0:Int) 0):=by kernel_rfl
noncomputable def Zcd:Fn:=⟨9,[4],[],[],0,[],[],Tryz.f114,[.c (.slice 11),.clo 115 []],[.c (.bool)],[(149,ZaP.S)]⟩
theorem Zni:Zcd.S.Ok Tryz.prog 114:=Zcd.ok Tryz.func114 (by kernel_rfl) ⟨Zmx,trivial⟩
noncomputable def Wr (x0:LL):Option (Bool):=Zcd.S.g [.l x0]
theorem ZhR (x0:LL):Wr x0 =
 ((Zf0 x0).bind fun (r1:Int)=>
 some ((cop .geq r1 0))):=by kernel_rfl
noncomputable def ZvY:Fn:=⟨6,[2],[],[],0,[],[],Tryz.f119,[.agg [.int .i64,.int .i64,.int .i64]],[.c (.bool)],[(120,Zrd.S)]⟩
theorem ZxE:ZvY.S.Ok Tryz.prog 119:=ZvY.ok Tryz.func119 (by kernel_rfl) ⟨Zor,trivial⟩
noncomputable def Zyt (x0 x1 x2:Int):Option (Bool):=ZvY.S.g [.i x0,.i x1,.i x2]
theorem Zp1 (x0 x1 x2:Int):Zyt x0 x1 x2 =
 ((ZrN x0 x1 x2).bind fun (r3:Bool)=>
 some ((!r3))):=by kernel_rfl
noncomputable def Zaz:Fn:=⟨19,[4],[(2,[(0,.c (.slice 3)),(1,.clo 119 []),(7,.c (.int .i64)),(8,.c (.int .i64))])],[],0,[],[],Tryz.f151,[.c (.slice 3),.clo 119 []],[.c (.int .i64)],[(119,ZvY.S)]⟩
theorem Zml:Zaz.S.Ok Tryz.prog 151:=Zaz.ok Tryz.func151 (by kernel_rfl) ⟨ZxE,trivial⟩
noncomputable def Zfm (x0:LL):Option (Int):=Zaz.S.g [.l x0]
noncomputable def KG (k:Nat) (x0:LL) (x1 x2:Int):Option (Int):=Zaz.lp [0] 0 r0 k [.l x0,.i x1,.i x2]
theorem Zbh (k:Nat) (x0:LL) (x1 x2:Int):KG (k+1) x0 x1 x2 =
 (if (cop .lss x2 x1)=true then
 Zi x0 x2 [.int .i64,.int .i64,.int .i64] fun (r3:Int×Int×Int)=>
 (Zyt r3.1 r3.2.1 r3.2.2).bind fun (r6:Bool)=>
 if r6=true then
 some (x2)
 else
 KG k x0 x1 (iop .add .i64 x2 1)
 else
 some ((-1))):=by kernel_rfl
theorem ZiW (x0:LL):Zfm x0 =
 (KG Zx x0 (List.length x0:Int) 0):=by kernel_rfl
noncomputable def Zb7:Fn:=⟨9,[4],[],[],0,[],[],Tryz.f118,[.c (.slice 3),.clo 119 []],[.c (.bool)],[(151,Zaz.S)]⟩
theorem ZmU:Zb7.S.Ok Tryz.prog 118:=Zb7.ok Tryz.func118 (by kernel_rfl) ⟨Zml,trivial⟩
noncomputable def Zb9 (x0:LL):Option (Bool):=Zb7.S.g [.l x0]
theorem ZiH (x0:LL):Zb9 x0 =
 ((Zfm x0).bind fun (r1:Int)=>
 some ((cop .geq r1 0))):=by kernel_rfl
noncomputable def ZvJ:Fn:=⟨6,[2],[],[],0,[],[],Tryz.f122,[.c (.int .i64)],[.c (.bool)],[(67,F67.S)]⟩
theorem ZxW:ZvJ.S.Ok Tryz.prog 122:=ZvJ.ok Tryz.func122 (by kernel_rfl) ⟨Zp5,trivial⟩
noncomputable def ZxF (x0:Int):Option (Bool):=ZvJ.S.g [.i x0]
theorem Zp4 (x0:Int):ZxF x0 =
 ((g67 x0).bind fun (r1:Bool)=>
 some ((!r1))):=by kernel_rfl
noncomputable def Za3:Fn:=⟨19,[4],[(2,[(0,.c (.slice 1)),(1,.clo 122 []),(7,.c (.int .i64)),(8,.c (.int .i64))])],[],0,[],[],Tryz.f152,[.c (.slice 1),.clo 122 []],[.c (.int .i64)],[(122,ZvJ.S)]⟩
theorem Zmg:Za3.S.Ok Tryz.prog 152:=Za3.ok Tryz.func152 (by kernel_rfl) ⟨ZxW,trivial⟩
noncomputable def Zfu (x0:LL):Option (Int):=Za3.S.g [.l x0]
noncomputable def KA (k:Nat) (x0:LL) (x1 x2:Int):Option (Int):=Za3.lp [0] 0 r0 k [.l x0,.i x1,.i x2]
theorem ZaI (k:Nat) (x0:LL) (x1 x2:Int):KA (k+1) x0 x1 x2 =
 (if (cop .lss x2 x1)=true then
 Zi x0 x2 [.int .i64] fun (r3:Int)=>
 (ZxF r3).bind fun (r4:Bool)=>
 if r4=true then
 some (x2)
 else
 KA k x0 x1 (iop .add .i64 x2 1)
 else
 some ((-1))):=by kernel_rfl
theorem ZhV (x0:LL):Zfu x0 =
 (KA Zx x0 (List.length x0:Int) 0):=by kernel_rfl
noncomputable def Zcm:Fn:=⟨9,[4],[],[],0,[],[],Tryz.f121,[.c (.slice 1),.clo 122 []],[.c (.bool)],[(152,Za3.S)]⟩
theorem ZmW:Zcm.S.Ok Tryz.prog 121:=Zcm.ok Tryz.func121 (by kernel_rfl) ⟨Zmg,trivial⟩
noncomputable def Zcu (x0:LL):Option (Bool):=Zcm.S.g [.l x0]
theorem Zip (x0:LL):Zcu x0 =
 ((Zfu x0).bind fun (r1:Int)=>
 some ((cop .geq r1 0))):=by kernel_rfl
noncomputable def ZvC:Fn:=⟨17,[5],[],[2],0,[],[],Tryz.f124,[.c (.int .i64),.c (.int .i64),.box hs0],[.c (.bool)],[]⟩
theorem ZwM:ZvC.S.Ok Tryz.prog 124:=ZvC.ok Tryz.func124 (by kernel_rfl) trivial
noncomputable def ZxU (x0 x1 x2 x3 x4 x5 x6 x7 x8 x9 x10 x11 x12:Int) (x13:Bool) (x14 x15 x16 x17 x18 x19 x20 x21 x22 x23 x24 x25 x26 x27 x28 x29 x30 x31 x32 x33:Int) (x34:LL) (x35 x36 x37 x38 x39 x40:Int) (x41:Bool) (x42 x43 x44 x45:LL) (x46 x47:Int) (x48 x49 x50 x51 x52 x53 x54 x55:LL) (x56 x57:Int) (x58 x59 x60 x61 x62 x63 x64 x65:LL) (x66:Bool) (x67:Int) (x68 x69 x70 x71 x72 x73 x74 x75:LL):Option (Qt1):=ZvC.S.g [.i x0,.i x1,.i x2,.i x3,.i x4,.i x5,.i x6,.i x7,.i x8,.i x9,.i x10,.i x11,.i x12,.b x13,.i x14,.i x15,.i x16,.i x17,.i x18,.i x19,.i x20,.i x21,.i x22,.i x23,.i x24,.i x25,.i x26,.i x27,.i x28,.i x29,.i x30,.i x31,.i x32,.i x33,.l x34,.i x35,.i x36,.i x37,.i x38,.i x39,.i x40,.b x41,.l x42,.l x43,.l x44,.l x45,.i x46,.i x47,.l x48,.l x49,.l x50,.l x51,.l x52,.l x53,.l x54,.l x55,.i x56,.i x57,.l x58,.l x59,.l x60,.l x61,.l x62,.l x63,.l x64,.l x65,.b x66,.i x67,.l x68,.l x69,.l x70,.l x71,.l x72,.l x73,.l x74,.l x75]
theorem ZrK (x0 x1 x2 x3 x4 x5 x6 x7 x8 x9 x10 x11 x12:Int) (x13:Bool) (x14 x15 x16 x17 x18 x19 x20 x21 x22 x23 x24 x25 x26 x27 x28 x29 x30 x31 x32 x33:Int) (x34:LL) (x35 x36 x37 x38 x39 x40:Int) (x41:Bool) (x42 x43 x44 x45:LL) (x46 x47:Int) (x48 x49 x50 x51 x52 x53 x54 x55:LL) (x56 x57:Int) (x58 x59 x60 x61 x62 x63 x64 x65:LL) (x66:Bool) (x67:Int) (x68 x69 x70 x71 x72 x73 x74 x75:LL):ZxU x0 x1 x2 x3 x4 x5 x6 x7 x8 x9 x10 x11 x12 x13 x14 x15 x16 x17 x18 x19 x20 x21 x22 x23 x24 x25 x26 x27 x28 x29 x30 x31 x32 x33 x34 x35 x36 x37 x38 x39 x40 x41 x42 x43 x44 x45 x46 x47 x48 x49 x50 x51 x52 x53 x54 x55 x56 x57 x58 x59 x60 x61 x62 x63 x64 x65 x66 x67 x68 x69 x70 x71 x72 x73 x74 x75 =
 (Zi x44 x0 [.int .i64] fun (r76:Int)=>
 Zi x44 x1 [.int .i64] fun (r77:Int)=>
 some ((cop .lss r76 r77),x2,x3,x4,x5,x6,x7,x8,x9,x10,x11,x12,x13,x14,x15,x16,x17,x18,x19,x20,x21,x22,x23,x24,x25,x26,x27,x28,x29,x30,x31,x32,x33,x34,x35,x36,x37,x38,x39,x40,x41,x42,x43,x44,x45,x46,x47,x48,x49,x50,x51,x52,x53,x54,x55,x56,x57,x58,x59,x60,x61,x62,x63,x64,x65,x66,x67,x68,x69,x70,x71,x72,x73,x74,x75)):=by kernel_rfl
noncomputable def Zam:Fn:=⟨17,[4],[(2,[(0,.c (.int .i64)),(1,.clo 124 [17]),(5,.c (.int .i64)),(17,.gbox hs0)])],[],1,[],[],Tryz.f123,[.c (.int .i64),.clo 124 [17],.dead,.dead,.dead,.dead,.dead,.dead,.dead,.dead,.dead,.dead,.dead,.dead,.dead,.dead,.dead,.gbox hs0],[.c (.bool)],[(124,ZvC.S)]⟩
theorem Zm3:Zam.S.Ok Tryz.prog 123:=Zam.ok Tryz.func123 (by kernel_rfl) ⟨ZwM,trivial⟩
noncomputable def Zcv (x0 x1 x2 x3 x4 x5 x6 x7 x8 x9 x10 x11:Int) (x12:Bool) (x13 x14 x15 x16 x17 x18 x19 x20 x21 x22 x23 x24 x25 x26 x27 x28 x29 x30 x31 x32:Int) (x33:LL) (x34 x35 x36 x37 x38 x39:Int) (x40:Bool) (x41 x42 x43 x44:LL) (x45 x46:Int) (x47 x48 x49 x50 x51 x52 x53 x54:LL) (x55 x56:Int) (x57 x58 x59 x60 x61 x62 x63 x64:LL) (x65:Bool) (x66:Int) (x67 x68 x69 x70 x71 x72 x73 x74:LL):Option (Qt1):=Zam.S.g [.i x0,.i x1,.i x2,.i x3,.i x4,.i x5,.i x6,.i x7,.i x8,.i x9,.i x10,.i x11,.b x12,.i x13,.i x14,.i x15,.i x16,.i x17,.i x18,.i x19,.i x20,.i x21,.i x22,.i x23,.i x24,.i x25,.i x26,.i x27,.i x28,.i x29,.i x30,.i x31,.i x32,.l x33,.i x34,.i x35,.i x36,.i x37,.i x38,.i x39,.b x40,.l x41,.l x42,.l x43,.l x44,.i x45,.i x46,.l x47,.l x48,.l x49,.l x50,.l x51,.l x52,.l x53,.l x54,.i x55,.i x56,.l x57,.l x58,.l x59,.l x60,.l x61,.l x62,.l x63,.l x64,.b x65,.i x66,.l x67,.l x68,.l x69,.l x70,.l x71,.l x72,.l x73,.l x74]
noncomputable def Wl (k:Nat) (x0 x1 x2 x3 x4 x5 x6 x7 x8 x9 x10 x11 x12:Int) (x13:Bool) (x14 x15 x16 x17 x18 x19 x20 x21 x22 x23 x24 x25 x26 x27 x28 x29 x30 x31 x32 x33:Int) (x34:LL) (x35 x36 x37 x38 x39 x40:Int) (x41:Bool) (x42 x43 x44 x45:LL) (x46 x47:Int) (x48 x49 x50 x51 x52 x53 x54 x55:LL) (x56 x57:Int) (x58 x59 x60 x61 x62 x63 x64 x65:LL) (x66:Bool) (x67:Int) (x68 x69 x70 x71 x72 x73 x74 x75:LL):Option (Qt1):=Zam.lp [0] 0 r0 k [.i x0,.i x1,.i x2,.i x3,.i x4,.i x5,.i x6,.i x7,.i x8,.i x9,.i x10,.i x11,.i x12,.b x13,.i x14,.i x15,.i x16,.i x17,.i x18,.i x19,.i x20,.i x21,.i x22,.i x23,.i x24,.i x25,.i x26,.i x27,.i x28,.i x29,.i x30,.i x31,.i x32,.i x33,.l x34,.i x35,.i x36,.i x37,.i x38,.i x39,.i x40,.b x41,.l x42,.l x43,.l x44,.l x45,.i x46,.i x47,.l x48,.l x49,.l x50,.l x51,.l x52,.l x53,.l x54,.l x55,.i x56,.i x57,.l x58,.l x59,.l x60,.l x61,.l x62,.l x63,.l x64,.l x65,.b x66,.i x67,.l x68,.l x69,.l x70,.l x71,.l x72,.l x73,.l x74,.l x75]
theorem ZaA (k:Nat) (x0 x1 x2 x3 x4 x5 x6 x7 x8 x9 x10 x11 x12:Int) (x13:Bool) (x14 x15 x16 x17 x18 x19 x20 x21 x22 x23 x24 x25 x26 x27 x28 x29 x30 x31 x32 x33:Int) (x34:LL) (x35 x36 x37 x38 x39 x40:Int) (x41:Bool) (x42 x43 x44 x45:LL) (x46 x47:Int) (x48 x49 x50 x51 x52 x53 x54 x55:LL) (x56 x57:Int) (x58 x59 x60 x61 x62 x63 x64 x65:LL) (x66:Bool) (x67:Int) (x68 x69 x70 x71 x72 x73 x74 x75:LL):Wl (k+1) x0 x1 x2 x3 x4 x5 x6 x7 x8 x9 x10 x11 x12 x13 x14 x15 x16 x17 x18 x19 x20 x21 x22 x23 x24 x25 x26 x27 x28 x29 x30 x31 x32 x33 x34 x35 x36 x37 x38 x39 x40 x41 x42 x43 x44 x45 x46 x47 x48 x49 x50 x51 x52 x53 x54 x55 x56 x57 x58 x59 x60 x61 x62 x63 x64 x65 x66 x67 x68 x69 x70 x71 x72 x73 x74 x75 =
 (if (cop .lss x1 x0)=true then
 (ZxU (iop .sub .i64 x1 1) x1 x2 x3 x4 x5 x6 x7 x8 x9 x10 x11 x12 x13 x14 x15 x16 x17 x18 x19 x20 x21 x22 x23 x24 x25 x26 x27 x28 x29 x30 x31 x32 x33 x34 x35 x36 x37 x38 x39 x40 x41 x42 x43 x44 x45 x46 x47 x48 x49 x50 x51 x52 x53 x54 x55 x56 x57 x58 x59 x60 x61 x62 x63 x64 x65 x66 x67 x68 x69 x70 x71 x72 x73 x74 x75).bind fun (r76:Qt1)=>
 if (!r76.1)=true then
 some (false,r76.2.1,r76.2.2.1,r76.2.2.2.1,r76.2.2.2.2.1,r76.2.2.2.2.2.1,r76.2.2.2.2.2.2.1,r76.2.2.2.2.2.2.2.1,r76.2.2.2.2.2.2.2.2.1,r76.2.2.2.2.2.2.2.2.2.1,r76.2.2.2.2.2.2.2.2.2.2.1,r76.2.2.2.2.2.2.2.2.2.2.2.1,(d4 (d8 r76)).1,(d4 (d8 r76)).2.1,(d2 (d4 (d8 r76))).1,(d2 (d4 (d8 r76))).2.1,(d16 r76).1,(d16 r76).2.1,(d2 (d16 r76)).1,(d2 (d16 r76)).2.1,(d4 (d16 r76)).1,(d4 (d16 r76)).2.1,(d2 (d4 (d16 r76))).1,(d2 (d4 (d16 r76))).2.1,(d8 (d16 r76)).1,(d8 (d16 r76)).2.1,(d2 (d8 (d16 r76))).1,(d2 (d8 (d16 r76))).2.1,(d4 (d8 (d16 r76))).1,(d4 (d8 (d16 r76))).2.1,(d2 (d4 (d8 (d16 r76)))).1,(d2 (d4 (d8 (d16 r76)))).2.1,(d16 (d16 r76)).1,(d16 (d16 r76)).2.1,(d2 (d16 (d16 r76))).1,(d2 (d16 (d16 r76))).2.1,(d4 (d16 (d16 r76))).1,(d4 (d16 (d16 r76))).2.1,(d2 (d4 (d16 (d16 r76)))).1,(d2 (d4 (d16 (d16 r76)))).2.1,(d8 (d16 (d16 r76))).1,(d8 (d16 (d16 r76))).2.1,(d2 (d8 (d16 (d16 r76)))).1,(d2 (d8 (d16 (d16 r76)))).2.1,(d4 (d8 (d16 (d16 r76)))).1,(d4 (d8 (d16 (d16 r76)))).2.1,(d2 (d4 (d8 (d16 (d16 r76))))).1,(d2 (d4 (d8 (d16 (d16 r76))))).2.1,(d16 (d16 (d16 r76))).1,(d16 (d16 (d16 r76))).2.1,(d2 (d16 (d16 (d16 r76)))).1,(d2 (d16 (d16 (d16 r76)))).2.1,(d4 (d16 (d16 (d16 r76)))).1,(d4 (d16 (d16 (d16 r76)))).2.1,(d2 (d4 (d16 (d16 (d16 r76))))).1,(d2 (d4 (d16 (d16 (d16 r76))))).2.1,(d8 (d16 (d16 (d16 r76)))).1,(d8 (d16 (d16 (d16 r76)))).2.1,(d2 (d8 (d16 (d16 (d16 r76))))).1,(d2 (d8 (d16 (d16 (d16 r76))))).2.1,(d4 (d8 (d16 (d16 (d16 r76))))).1,(d4 (d8 (d16 (d16 (d16 r76))))).2.1,(d2 (d4 (d8 (d16 (d16 (d16 r76)))))).1,(d2 (d4 (d8 (d16 (d16 (d16 r76)))))).2.1,(d16 (d16 (d16 (d16 r76)))).1,(d16 (d16 (d16 (d16 r76)))).2.1,(d2 (d16 (d16 (d16 (d16 r76))))).1,(d2 (d16 (d16 (d16 (d16 r76))))).2.1,(d4 (d16 (d16 (d16 (d16 r76))))).1,(d4 (d16 (d16 (d16 (d16 r76))))).2.1,(d2 (d4 (d16 (d16 (d16 (d16 r76)))))).1,(d2 (d4 (d16 (d16 (d16 (d16 r76)))))).2.1,(d8 (d16 (d16 (d16 (d16 r76))))).1,(d8 (d16 (d16 (d16 (d16 r76))))).2.1,(d2 (d8 (d16 (d16 (d16 (d16 r76)))))))
 else
 Wl k x0 (iop .add .i64 x1 1) r76.2.1 r76.2.2.1 r76.2.2.2.1 r76.2.2.2.2.1 r76.2.2.2.2.2.1 r76.2.2.2.2.2.2.1 r76.2.2.2.2.2.2.2.1 r76.2.2.2.2.2.2.2.2.1 r76.2.2.2.2.2.2.2.2.2.1 r76.2.2.2.2.2.2.2.2.2.2.1 r76.2.2.2.2.2.2.2.2.2.2.2.1 (d4 (d8 r76)).1 (d4 (d8 r76)).2.1 (d2 (d4 (d8 r76))).1 (d2 (d4 (d8 r76))).2.1 (d16 r76).1 (d16 r76).2.1 (d2 (d16 r76)).1 (d2 (d16 r76)).2.1 (d4 (d16 r76)).1 (d4 (d16 r76)).2.1 (d2 (d4 (d16 r76))).1 (d2 (d4 (d16 r76))).2.1 (d8 (d16 r76)).1 (d8 (d16 r76)).2.1 (d2 (d8 (d16 r76))).1 (d2 (d8 (d16 r76))).2.1 (d4 (d8 (d16 r76))).1 (d4 (d8 (d16 r76))).2.1 (d2 (d4 (d8 (d16 r76)))).1 (d2 (d4 (d8 (d16 r76)))).2.1 (d16 (d16 r76)).1 (d16 (d16 r76)).2.1 (d2 (d16 (d16 r76))).1 (d2 (d16 (d16 r76))).2.1 (d4 (d16 (d16 r76))).1 (d4 (d16 (d16 r76))).2.1 (d2 (d4 (d16 (d16 r76)))).1 (d2 (d4 (d16 (d16 r76)))).2.1 (d8 (d16 (d16 r76))).1 (d8 (d16 (d16 r76))).2.1 (d2 (d8 (d16 (d16 r76)))).1 (d2 (d8 (d16 (d16 r76)))).2.1 (d4 (d8 (d16 (d16 r76)))).1 (d4 (d8 (d16 (d16 r76)))).2.1 (d2 (d4 (d8 (d16 (d16 r76))))).1 (d2 (d4 (d8 (d16 (d16 r76))))).2.1 (d16 (d16 (d16 r76))).1 (d16 (d16 (d16 r76))).2.1 (d2 (d16 (d16 (d16 r76)))).1 (d2 (d16 (d16 (d16 r76)))).2.1 (d4 (d16 (d16 (d16 r76)))).1 (d4 (d16 (d16 (d16 r76)))).2.1 (d2 (d4 (d16 (d16 (d16 r76))))).1 (d2 (d4 (d16 (d16 (d16 r76))))).2.1 (d8 (d16 (d16 (d16 r76)))).1 (d8 (d16 (d16 (d16 r76)))).2.1 (d2 (d8 (d16 (d16 (d16 r76))))).1 (d2 (d8 (d16 (d16 (d16 r76))))).2.1 (d4 (d8 (d16 (d16 (d16 r76))))).1 (d4 (d8 (d16 (d16 (d16 r76))))).2.1 (d2 (d4 (d8 (d16 (d16 (d16 r76)))))).1 (d2 (d4 (d8 (d16 (d16 (d16 r76)))))).2.1 (d16 (d16 (d16 (d16 r76)))).1 (d16 (d16 (d16 (d16 r76)))).2.1 (d2 (d16 (d16 (d16 (d16 r76))))).1 (d2 (d16 (d16 (d16 (d16 r76))))).2.1 (d4 (d16 (d16 (d16 (d16 r76))))).1 (d4 (d16 (d16 (d16 (d16 r76))))).2.1 (d2 (d4 (d16 (d16 (d16 (d16 r76)))))).1 (d2 (d4 (d16 (d16 (d16 (d16 r76)))))).2.1 (d8 (d16 (d16 (d16 (d16 r76))))).1 (d8 (d16 (d16 (d16 (d16 r76))))).2.1 (d2 (d8 (d16 (d16 (d16 (d16 r76))))))
 else
 some (true,x2,x3,x4,x5,x6,x7,x8,x9,x10,x11,x12,x13,x14,x15,x16,x17,x18,x19,x20,x21,x22,x23,x24,x25,x26,x27,x28,x29,x30,x31,x32,x33,x34,x35,x36,x37,x38,x39,x40,x41,x42,x43,x44,x45,x46,x47,x48,x49,x50,x51,x52,x53,x54,x55,x56,x57,x58,x59,x60,x61,x62,x63,x64,x65,x66,x67,x68,x69,x70,x71,x72,x73,x74,x75)):=by kernel_rfl
theorem ZhH (x0 x1 x2 x3 x4 x5 x6 x7 x8 x9 x10 x11:Int) (x12:Bool) (x13 x14 x15 x16 x17 x18 x19 x20 x21 x22 x23 x24 x25 x26 x27 x28 x29 x30 x31 x32:Int) (x33:LL) (x34 x35 x36 x37 x38 x39:Int) (x40:Bool) (x41 x42 x43 x44:LL) (x45 x46:Int) (x47 x48 x49 x50 x51 x52 x53 x54:LL) (x55 x56:Int) (x57 x58 x59 x60 x61 x62 x63 x64:LL) (x65:Bool) (x66:Int) (x67 x68 x69 x70 x71 x72 x73 x74:LL):Zcv x0 x1 x2 x3 x4 x5 x6 x7 x8 x9 x10 x11 x12 x13 x14 x15 x16 x17 x18 x19 x20 x21 x22 x23 x24 x25 x26 x27 x28 x29 x30 x31 x32 x33 x34 x35 x36 x37 x38 x39 x40 x41 x42 x43 x44 x45 x46 x47 x48 x49 x50 x51 x52 x53 x54 x55 x56 x57 x58 x59 x60 x61 x62 x63 x64 x65 x66 x67 x68 x69 x70 x71 x72 x73 x74 =
 (Wl Zx x0 1 x1 x2 x3 x4 x5 x6 x7 x8 x9 x10 x11 x12 x13 x14 x15 x16 x17 x18 x19 x20 x21 x22 x23 x24 x25 x26 x27 x28 x29 x30 x31 x32 x33 x34 x35 x36 x37 x38 x39 x40 x41 x42 x43 x44 x45 x46 x47 x48 x49 x50 x51 x52 x53 x54 x55 x56 x57 x58 x59 x60 x61 x62 x63 x64 x65 x66 x67 x68 x69 x70 x71 x72 x73 x74):=by kernel_rfl
noncomputable def Zvp:Fn:=⟨13,[2],[],[],0,[],[],Tryz.f129,[.agg [.int .i64,.int .i64]],[.c (.bool)],[(110,ZrV.S),(67,F67.S)]⟩
theorem Zxp:Zvp.S.Ok Tryz.prog 129:=Zvp.ok Tryz.func129 (by kernel_rfl) ⟨ZnN,⟨Zp5,trivial⟩⟩
noncomputable def Zv5 (x0 x1:Int):Option (Bool):=Zvp.S.g [.i x0,.i x1]
theorem Zqg (x0 x1:Int):Zv5 x0 x1 =
 ((Zsj x0).bind fun (r2:Bool)=>
 if (!r2)=true then
 some (true)
 else
 (g67 x1).bind fun (r3:Bool)=>
 some ((!r3))):=by kernel_rfl
noncomputable def Zaw:Fn:=⟨19,[4],[(2,[(0,.c (.slice 2)),(1,.clo 129 []),(7,.c (.int .i64)),(8,.c (.int .i64))])],[],0,[],[],Tryz.f161,[.c (.slice 2),.clo 129 []],[.c (.int .i64)],[(129,Zvp.S)]⟩
theorem ZlH:Zaw.S.Ok Tryz.prog 161:=Zaw.ok Tryz.func161 (by kernel_rfl) ⟨Zxp,trivial⟩
noncomputable def Zfg (x0:LL):Option (Int):=Zaw.S.g [.l x0]
noncomputable def Kz (k:Nat) (x0:LL) (x1 x2:Int):Option (Int):=Zaw.lp [0] 0 r0 k [.l x0,.i x1,.i x2]
theorem Za1 (k:Nat) (x0:LL) (x1 x2:Int):Kz (k+1) x0 x1 x2 =
 (if (cop .lss x2 x1)=true then
 Zi x0 x2 [.int .i64,.int .i64] fun (r3:Int×Int)=>
 (Zv5 r3.1 r3.2).bind fun (r5:Bool)=>
 if r5=true then
 some (x2)
 else
 Kz k x0 x1 (iop .add .i64 x2 1)
 else
 some ((-1))):=by kernel_rfl
theorem Zh0 (x0:LL):Zfg x0 =
 (Kz Zx x0 (List.length x0:Int) 0):=by kernel_rfl
noncomputable def Zcy:Fn:=⟨9,[4],[],[],0,[],[],Tryz.f128,[.c (.slice 2),.clo 129 []],[.c (.bool)],[(161,Zaw.S)]⟩
theorem Zns:Zcy.S.Ok Tryz.prog 128:=Zcy.ok Tryz.func128 (by kernel_rfl) ⟨ZlH,trivial⟩
noncomputable def Zcs (x0:LL):Option (Bool):=Zcy.S.g [.l x0]
theorem Zh3 (x0:LL):Zcs x0 =
 ((Zfg x0).bind fun (r1:Int)=>
 some ((cop .geq r1 0))):=by kernel_rfl
noncomputable def F68:Fn:=⟨114,[4],[],[],0,[],[],Tryz.f68,[.agg hs0,.c (.int .i64)],[.c (.bool)],[(110,ZrV.S),(111,ZsA.S),(112,Zq1.S),(113,Zt5.S),(114,Zcd.S),(117,Zsw.S),(118,Zb7.S),(66,F66.S),(121,Zcm.S),(123,Zam.S),(125,Zvu.S),(126,Zsl.S),(127,ZsH.S),(128,Zcy.S)]⟩
theorem Zzx:F68.S.Ok Tryz.prog 68:=F68.ok Tryz.func68 (by kernel_rfl) ⟨ZnN,⟨Zu3,⟨Zn9,⟨ZsQ,⟨Zni,⟨ZuU,⟨ZmU,⟨Zwu,⟨ZmW,⟨Zm3,⟨ZxC,⟨Zs7,⟨Zts,⟨Zns,trivial⟩⟩⟩⟩⟩⟩⟩⟩⟩⟩⟩⟩⟩⟩
noncomputable def g68 (x0 x1 x2 x3 x4 x5 x6 x7 x8 x9 x10:Int) (x11:Bool) (x12 x13 x14 x15 x16 x17 x18 x19 x20 x21 x22 x23 x24 x25 x26 x27 x28 x29 x30 x31:Int) (x32:LL) (x33 x34 x35 x36 x37 x38:Int) (x39:Bool) (x40 x41 x42 x43:LL) (x44 x45:Int) (x46 x47 x48 x49 x50 x51 x52 x53:LL) (x54 x55:Int) (x56 x57 x58 x59 x60 x61 x62 x63:LL) (x64:Bool) (x65:Int) (x66 x67 x68 x69 x70 x71 x72 x73:LL) (x74:Int):Option (Bool):=F68.S.g [.i x0,.i x1,.i x2,.i x3,.i x4,.i x5,.i x6,.i x7,.i x8,.i x9,.i x10,.b x11,.i x12,.i x13,.i x14,.i x15,.i x16,.i x17,.i x18,.i x19,.i x20,.i x21,.i x22,.i x23,.i x24,.i x25,.i x26,.i x27,.i x28,.i x29,.i x30,.i x31,.l x32,.i x33,.i x34,.i x35,.i x36,.i x37,.i x38,.b x39,.l x40,.l x41,.l x42,.l x43,.i x44,.i x45,.l x46,.l x47,.l x48,.l x49,.l x50,.l x51,.l x52,.l x53,.i x54,.i x55,.l x56,.l x57,.l x58,.l x59,.l x60,.l x61,.l x62,.l x63,.b x64,.i x65,.l x66,.l x67,.l x68,.l x69,.l x70,.l x71,.l x72,.l x73,.i x74]
theorem KN (x0 x1 x2 x3 x4 x5 x6 x7 x8 x9 x10:Int) (x11:Bool) (x12 x13 x14 x15 x16 x17 x18 x19 x20 x21 x22 x23 x24 x25 x26 x27 x28 x29 x30 x31:Int) (x32:LL) (x33 x34 x35 x36 x37 x38:Int) (x39:Bool) (x40 x41 x42 x43:LL) (x44 x45:Int) (x46 x47 x48 x49 x50 x51 x52 x53:LL) (x54 x55:Int) (x56 x57 x58 x59 x60 x61 x62 x63:LL) (x64:Bool) (x65:Int) (x66 x67 x68 x69 x70 x71 x72 x73:LL) (x74:Int):g68 x0 x1 x2 x3 x4 x5 x6 x7 x8 x9 x10 x11 x12 x13 x14 x15 x16 x17 x18 x19 x20 x21 x22 x23 x24 x25 x26 x27 x28 x29 x30 x31 x32 x33 x34 x35 x36 x37 x38 x39 x40 x41 x42 x43 x44 x45 x46 x47 x48 x49 x50 x51 x52 x53 x54 x55 x56 x57 x58 x59 x60 x61 x62 x63 x64 x65 x66 x67 x68 x69 x70 x71 x72 x73 x74 =
 (if (cop .eql x74 0)=true then
 (Zsj x5).bind fun (r75:Bool)=>
 some (r75)
 else
 if (cop .eql x74 1)=true then
 (ZvR x12 x13 x14 x15 x16 x17 x18 x19 x20 x21 x22 x23 x24 x25 x26 x27 x28 x29 x30 x31 x32 x33 x34 x35 x36 x37 x38 x39).bind fun (r75:Bool)=>
 some (r75)
 else
 if (cop .eql x74 2)=true then
 (Zse x7 x8 x9).bind fun (r75:Bool)=>
 some (r75)
 else
 if (cop .eql x74 3)=true then
 (ZvT x10).bind fun (r75:Bool)=>
 some (r75)
 else
 if (cop .eql x74 5)=true then
 if (cop .gtr (List.length x41:Int) 8)=true then
 some (false)
 else
 if (cop .eql x0 4)=true then
 if (cop .neq (List.length x41:Int) 1)=true then
 some (false)
 else
 (Wr x41).bind fun (r75:Bool)=>
 some ((!r75))
 else
 (Wr x41).bind fun (r75:Bool)=>
 some ((!r75))
 else
 if (cop .eql x74 6)=true then
 (ZvM x6).bind fun (r75:Bool)=>
 some (r75)
 else
 if (cop .eql x74 7)=true then
 if (cop .leq (List.length x40:Int) 64)=true then
 (Zb9 x40).bind fun (r75:Bool)=>
 some ((!r75))
 else
 some (false)
 else
 if (cop .eql x74 8)=true then
 (g66 x4).bind fun (r75:Bool)=>
 some (r75)
 else
 if (cop .eql x74 9)=true then
 (Zcu x42).bind fun (r75:Bool)=>
 if (!r75)=true then
 (Zcv (List.length x42:Int) x0 x1 x2 x3 x4 x5 x6 x7 x8 x9 x10 x11 x12 x13 x14 x15 x16 x17 x18 x19 x20 x21 x22 x23 x24 x25 x26 x27 x28 x29 x30 x31 x32 x33 x34 x35 x36 x37 x38 x39 x40 x41 x42 x43 x44 x45 x46 x47 x48 x49 x50 x51 x52 x53 x54 x55 x56 x57 x58 x59 x60 x61 x62 x63 x64 x65 x66 x67 x68 x69 x70 x71 x72 x73).bind fun (r76:Qt1)=>
 some (r76.1)
 else
 some (false)
 else
 if (cop .eql x74 10)=true then
 (Zxu x54 x55 x56 x57 x58 x59 x60 x61 x62 x63 x64 x65 x66 x67 x68 x69 x70 x71 x72 x73).bind fun (r75:Bool)=>
 some (r75)
 else
 if (cop .eql x74 11)=true then
 (g66 x44).bind fun (r75:Bool)=>
 some (r75)
 else
 if (cop .eql x74 12)=true then
 (ZsG x45 x46 x47).bind fun (r75:Bool)=>
 some (r75)
 else
 if (cop .eql x74 13)=true then
 (ZuQ x48 x49 x50 x51 x52 x53).bind fun (r75:Bool)=>
 some (r75)
 else
 if (cop .eql x74 14)=true then
 if (cop .leq (List.length x43:Int) 16)=true then
 (Zcs x43).bind fun (r75:Bool)=>
 some ((!r75))
 else
 some (false)
 else
 some (true)):=by kernel_rfl
noncomputable def F69:Fn:=⟨85,[],[],[0],0,[],[],Tryz.f69,[.box hs0,.c (.int .i64)],[],[]⟩
theorem ZzD:F69.S.Ok Tryz.prog 69:=F69.ok Tryz.func69 (by kernel_rfl) trivial
noncomputable def g69 (x0 x1 x2 x3 x4 x5 x6 x7 x8 x9 x10:Int) (x11:Bool) (x12 x13 x14 x15 x16 x17 x18 x19 x20 x21 x22 x23 x24 x25 x26 x27 x28 x29 x30 x31:Int) (x32:LL) (x33 x34 x35 x36 x37 x38:Int) (x39:Bool) (x40 x41 x42 x43:LL) (x44 x45:Int) (x46 x47 x48 x49 x50 x51 x52 x53:LL) (x54 x55:Int) (x56 x57 x58 x59 x60 x61 x62 x63:LL) (x64:Bool) (x65:Int) (x66 x67 x68 x69 x70 x71 x72 x73:LL) (x74:Int):Option (Qt2):=F69.S.g [.i x0,.i x1,.i x2,.i x3,.i x4,.i x5,.i x6,.i x7,.i x8,.i x9,.i x10,.b x11,.i x12,.i x13,.i x14,.i x15,.i x16,.i x17,.i x18,.i x19,.i x20,.i x21,.i x22,.i x23,.i x24,.i x25,.i x26,.i x27,.i x28,.i x29,.i x30,.i x31,.l x32,.i x33,.i x34,.i x35,.i x36,.i x37,.i x38,.b x39,.l x40,.l x41,.l x42,.l x43,.i x44,.i x45,.l x46,.l x47,.l x48,.l x49,.l x50,.l x51,.l x52,.l x53,.i x54,.i x55,.l x56,.l x57,.l x58,.l x59,.l x60,.l x61,.l x62,.l x63,.b x64,.i x65,.l x66,.l x67,.l x68,.l x69,.l x70,.l x71,.l x72,.l x73,.i x74]
theorem KM (x0 x1 x2 x3 x4 x5 x6 x7 x8 x9 x10:Int) (x11:Bool) (x12 x13 x14 x15 x16 x17 x18 x19 x20 x21 x22 x23 x24 x25 x26 x27 x28 x29 x30 x31:Int) (x32:LL) (x33 x34 x35 x36 x37 x38:Int) (x39:Bool) (x40 x41 x42 x43:LL) (x44 x45:Int) (x46 x47 x48 x49 x50 x51 x52 x53:LL) (x54 x55:Int) (x56 x57 x58 x59 x60 x61 x62 x63:LL) (x64:Bool) (x65:Int) (x66 x67 x68 x69 x70 x71 x72 x73:LL) (x74:Int):g69 x0 x1 x2 x3 x4 x5 x6 x7 x8 x9 x10 x11 x12 x13 x14 x15 x16 x17 x18 x19 x20 x21 x22 x23 x24 x25 x26 x27 x28 x29 x30 x31 x32 x33 x34 x35 x36 x37 x38 x39 x40 x41 x42 x43 x44 x45 x46 x47 x48 x49 x50 x51 x52 x53 x54 x55 x56 x57 x58 x59 x60 x61 x62 x63 x64 x65 x66 x67 x68 x69 x70 x71 x72 x73 x74 =
 (if (cop .eql x74 0)=true then
 some (x0,x1,x2,x3,x4,0,x6,x7,x8,x9,x10,x11,x12,x13,x14,x15,x16,x17,x18,x19,x20,x21,x22,x23,x24,x25,x26,x27,x28,x29,x30,x31,x32,x33,x34,x35,x36,x37,x38,x39,x40,x41,x42,x43,x44,x45,x46,x47,x48,x49,x50,x51,x52,x53,x54,x55,x56,x57,x58,x59,x60,x61,x62,x63,x64,x65,x66,x67,x68,x69,x70,x71,x72,x73)
 else
 if (cop .eql x74 1)=true then
 some (x0,x1,x2,x3,x4,x5,x6,x7,x8,x9,x10,x11,0,0,0,0,0,0,0,0,0,0,0,0,0,0,0,0,0,0,0,0,E0,0,0,0,0,0,0,false,x40,x41,x42,x43,x44,x45,x46,x47,x48,x49,x50,x51,x52,x53,x54,x55,x56,x57,x58,x59,x60,x61,x62,x63,x64,x65,x66,x67,x68,x69,x70,x71,x72,x73)
 else
 if (cop .eql x74 2)=true then
 some (x0,x1,x2,x3,x4,x5,x6,0,0,0,x10,x11,x12,x13,x14,x15,x16,x17,x18,x19,x20,x21,x22,x23,x24,x25,x26,x27,x28,x29,x30,x31,x32,x33,x34,x35,x36,x37,x38,x39,x40,x41,x42,x43,x44,x45,x46,x47,x48,x49,x50,x51,x52,x53,x54,x55,x56,x57,x58,x59,x60,x61,x62,x63,x64,x65,x66,x67,x68,x69,x70,x71,x72,x73)
 else
 if (cop .eql x74 3)=true then
 some (x0,x1,x2,x3,x4,x5,x6,x7,x8,x9,0,x11,x12,x13,x14,x15,x16,x17,x18,x19,x20,x21,x22,x23,x24,x25,x26,x27,x28,x29,x30,x31,x32,x33,x34,x35,x36,x37,x38,x39,x40,x41,x42,x43,x44,x45,x46,x47,x48,x49,x50,x51,x52,x53,x54,x55,x56,x57,x58,x59,x60,x61,x62,x63,x64,x65,x66,x67,x68,x69,x70,x71,x72,x73)
 else
 if (cop .eql x74 4)=true then
 some (x0,x1,x2,x3,x4,x5,x6,x7,x8,x9,x10,false,x12,x13,x14,x15,x16,x17,x18,x19,x20,x21,x22,x23,x24,x25,x26,x27,x28,x29,x30,x31,x32,x33,x34,x35,x36,x37,x38,x39,x40,x41,x42,x43,x44,x45,x46,x47,x48,x49,x50,x51,x52,x53,x54,x55,x56,x57,x58,x59,x60,x61,x62,x63,x64,x65,x66,x67,x68,x69,x70,x71,x72,x73)
 else
 if (cop .eql x74 5)=true then
 some (x0,x1,x2,x3,x4,x5,x6,x7,x8,x9,x10,x11,x12,x13,x14,x15,x16,x17,x18,x19,x20,x21,x22,x23,x24,x25,x26,x27,x28,x29,x30,x31,x32,x33,x34,x35,x36,x37,x38,x39,x40,E0,x42,x43,x44,x45,x46,x47,x48,x49,x50,x51,x52,x53,x54,x55,x56,x57,x58,x59,x60,x61,x62,x63,x64,x65,x66,x67,x68,x69,x70,x71,x72,x73)
 else
 if (cop .eql x74 6)=true then
 some (x0,x1,x2,x3,x4,x5,0,x7,x8,x9,x10,x11,x12,x13,x14,x15,x16,x17,x18,x19,x20,x21,x22,x23,x24,x25,x26,x27,x28,x29,x30,x31,x32,x33,x34,x35,x36,x37,x38,x39,x40,x41,x42,x43,x44,x45,x46,x47,x48,x49,x50,x51,x52,x53,x54,x55,x56,x57,x58,x59,x60,x61,x62,x63,x64,x65,x66,x67,x68,x69,x70,x71,x72,x73)
 else
 if (cop .eql x74 7)=true then
 some (x0,x1,x2,x3,x4,x5,x6,x7,x8,x9,x10,x11,x12,x13,x14,x15,x16,x17,x18,x19,x20,x21,x22,x23,x24,x25,x26,x27,x28,x29,x30,x31,x32,x33,x34,x35,x36,x37,x38,x39,E0,x41,x42,x43,x44,x45,x46,x47,x48,x49,x50,x51,x52,x53,x54,x55,x56,x57,x58,x59,x60,x61,x62,x63,x64,x65,x66,x67,x68,x69,x70,x71,x72,x73)
 else
 if (cop .eql x74 8)=true then
 some (x0,x1,x2,x3,0,x5,x6,x7,x8,x9,x10,x11,x12,x13,x14,x15,x16,x17,x18,x19,x20,x21,x22,x23,x24,x25,x26,x27,x28,x29,x30,x31,x32,x33,x34,x35,x36,x37,x38,x39,x40,x41,x42,x43,x44,x45,x46,x47,x48,x49,x50,x51,x52,x53,x54,x55,x56,x57,x58,x59,x60,x61,x62,x63,x64,x65,x66,x67,x68,x69,x70,x71,x72,x73)
 else
 if (cop .eql x74 9)=true then
 some (x0,x1,x2,x3,x4,x5,x6,x7,x8,x9,x10,x11,x12,x13,x14,x15,x16,x17,x18,x19,x20,x21,x22,x23,x24,x25,x26,x27,x28,x29,x30,x31,x32,x33,x34,x35,x36,x37,x38,x39,x40,x41,E0,x43,x44,x45,x46,x47,x48,x49,x50,x51,x52,x53,x54,x55,x56,x57,x58,x59,x60,x61,x62,x63,x64,x65,x66,x67,x68,x69,x70,x71,x72,x73)
 else
 if (cop .eql x74 10)=true then
 some (x0,x1,x2,x3,x4,x5,x6,x7,x8,x9,x10,x11,x12,x13,x14,x15,x16,x17,x18,x19,x20,x21,x22,x23,x24,x25,x26,x27,x28,x29,x30,x31,x32,x33,x34,x35,x36,x37,x38,x39,x40,x41,x42,x43,x44,x45,x46,x47,x48,x49,x50,x51,x52,x53,0,0,E0,E0,E0,E0,E0,E0,E0,E0,false,0,E0,E0,E0,E0,E0,E0,E0,E0)
 else
 if (cop .eql x74 11)=true then
 some (x0,x1,x2,x3,x4,x5,x6,x7,x8,x9,x10,x11,x12,x13,x14,x15,x16,x17,x18,x19,x20,x21,x22,x23,x24,x25,x26,x27,x28,x29,x30,x31,x32,x33,x34,x35,x36,x37,x38,x39,x40,x41,x42,x43,0,x45,x46,x47,x48,x49,x50,x51,x52,x53,x54,x55,x56,x57,x58,x59,x60,x61,x62,x63,x64,x65,x66,x67,x68,x69,x70,x71,x72,x73)
 else
 if (cop .eql x74 12)=true then
 some (x0,x1,x2,x3,x4,x5,x6,x7,x8,x9,x10,x11,x12,x13,x14,x15,x16,x17,x18,x19,x20,x21,x22,x23,x24,x25,x26,x27,x28,x29,x30,x31,x32,x33,x34,x35,x36,x37,x38,x39,x40,x41,x42,x43,x44,0,E0,E0,x48,x49,x50,x51,x52,x53,x54,x55,x56,x57,x58,x59,x60,x61,x62,x63,x64,x65,x66,x67,x68,x69,x70,x71,x72,x73)
 else
 if (cop .eql x74 13)=true then
 some (x0,x1,x2,x3,x4,x5,x6,x7,x8,x9,x10,x11,x12,x13,x14,x15,x16,x17,x18,x19,x20,x21,x22,x23,x24,x25,x26,x27,x28,x29,x30,x31,x32,x33,x34,x35,x36,x37,x38,x39,x40,x41,x42,x43,x44,x45,x46,x47,E0,E0,E0,E0,E0,E0,x54,x55,x56,x57,x58,x59,x60,x61,x62,x63,x64,x65,x66,x67,x68,x69,x70,x71,x72,x73)
 else
 if (cop .eql x74 14)=true then
 some (x0,x1,x2,x3,x4,x5,x6,x7,x8,x9,x10,x11,x12,x13,x14,x15,x16,x17,x18,x19,x20,x21,x22,x23,x24,x25,x26,x27,x28,x29,x30,x31,x32,x33,x34,x35,x36,x37,x38,x39,x40,x41,x42,E0,x44,x45,x46,x47,x48,x49,x50,x51,x52,x53,x54,x55,x56,x57,x58,x59,x60,x61,x62,x63,x64,x65,x66,x67,x68,x69,x70,x71,x72,x73)
 else
 some (x0,x1,x2,x3,x4,x5,x6,x7,x8,x9,x10,x11,x12,x13,x14,x15,x16,x17,x18,x19,x20,x21,x22,x23,x24,x25,x26,x27,x28,x29,x30,x31,x32,x33,x34,x35,x36,x37,x38,x39,x40,x41,x42,x43,x44,x45,x46,x47,x48,x49,x50,x51,x52,x53,x54,x55,x56,x57,x58,x59,x60,x61,x62,x63,x64,x65,x66,x67,x68,x69,x70,x71,x72,x73)):=by kernel_rfl
noncomputable def ZvP:Fn:=⟨29,[2],[],[],0,[],[],Tryz.f130,[.agg hs3],[.c (.bool)],[(148,Zr6.S)]⟩
theorem Zw2:ZvP.S.Ok Tryz.prog 130:=ZvP.ok Tryz.func130 (by kernel_rfl) ⟨ZrT,trivial⟩
noncomputable def ZwL (x0 x1 x2 x3 x4 x5 x6 x7 x8 x9 x10 x11 x12 x13 x14 x15 x16 x17 x18 x19:Int) (x20:LL) (x21 x22 x23 x24 x25 x26:Int) (x27:Bool):Option (Bool):=ZvP.S.g [.i x0,.i x1,.i x2,.i x3,.i x4,.i x5,.i x6,.i x7,.i x8,.i x9,.i x10,.i x11,.i x12,.i x13,.i x14,.i x15,.i x16,.i x17,.i x18,.i x19,.l x20,.i x21,.i x22,.i x23,.i x24,.i x25,.i x26,.b x27]
theorem Zqj (x0 x1 x2 x3 x4 x5 x6 x7 x8 x9 x10 x11 x12 x13 x14 x15 x16 x17 x18 x19:Int) (x20:LL) (x21 x22 x23 x24 x25 x26:Int) (x27:Bool):ZwL x0 x1 x2 x3 x4 x5 x6 x7 x8 x9 x10 x11 x12 x13 x14 x15 x16 x17 x18 x19 x20 x21 x22 x23 x24 x25 x26 x27 =
 (if ((cop .eql x0 0)&&((cop .eql x1 0)&&((cop .eql x2 0)&&true)))=true then
 if ((cop .eql x3 0)&&((cop .eql x4 0)&&((cop .eql x5 0)&&((cop .eql x6 0)&&((cop .eql x7 0)&&((cop .eql x8 0)&&((cop .eql x9 0)&&((cop .eql x10 0)&&((cop .eql x11 0)&&((cop .eql x12 0)&&((cop .eql x13 0)&&((cop .eql x14 0)&&true))))))))))))=true then
 if (cop .eql x15 0)=true then
 if (cop .eql x16 0)=true then
 (Zry x17 x18 x19 x20 x21 x22 x23 x24 x25 x26 x27 0 0 0 E0 0 0 0 0 0 0 false).bind fun (r28:Bool)=>
 some (r28)
 else
 some (false)
 else
 some (false)
 else
 some (false)
 else
 some (false)):=by kernel_rfl
noncomputable def ZsT:Fn:=⟨18,[2],[],[],0,[],[],Tryz.f131,[.agg [.int .i64,.slice 1,.slice 1]],[.c (.bool)],[]⟩
theorem ZtY:ZsT.S.Ok Tryz.prog 131:=ZsT.ok Tryz.func131 (by kernel_rfl) trivial
noncomputable def Zuc (x0:Int) (x1 x2:LL):Option (Bool):=ZsT.S.g [.i x0,.l x1,.l x2]
theorem ZqV (x0:Int) (x1 x2:LL):Zuc x0 x1 x2 =
 (if (cop .eql x0 0)=true then
 if (cop .eql (List.length x1:Int) 0)=true then
 some ((cop .eql (List.length x2:Int) 0))
 else
 some (false)
 else
 some (false)):=by kernel_rfl
noncomputable def Zsu:Fn:=⟨37,[2],[],[],0,[],[],Tryz.f132,[.agg hs16],[.c (.bool)],[]⟩
theorem Zuy:Zsu.S.Ok Tryz.prog 132:=Zsu.ok Tryz.func132 (by kernel_rfl) trivial
noncomputable def Zti (x0 x1 x2 x3 x4 x5:LL):Option (Bool):=Zsu.S.g [.l x0,.l x1,.l x2,.l x3,.l x4,.l x5]
theorem Zql (x0 x1 x2 x3 x4 x5:LL):Zti x0 x1 x2 x3 x4 x5 =
 (if (cop .eql (List.length x0:Int) 0)=true then
 if (cop .eql (List.length x1:Int) 0)=true then
 if (cop .eql (List.length x2:Int) 0)=true then
 if (cop .eql (List.length x3:Int) 0)=true then
 if (cop .eql (List.length x4:Int) 0)=true then
 some ((cop .eql (List.length x5:Int) 0))
 else
 some (false)
 else
 some (false)
 else
 some (false)
 else
 some (false)
 else
 some (false)):=by kernel_rfl
noncomputable def Zv0:Fn:=⟨31,[2],[],[],0,[],[],Tryz.f133,[.agg hs4],[.c (.bool)],[(131,ZsT.S),(132,Zsu.S)]⟩
theorem ZxS:Zv0.S.Ok Tryz.prog 133:=Zv0.ok Tryz.func133 (by kernel_rfl) ⟨ZtY,⟨Zuy,trivial⟩⟩
noncomputable def ZwK (x0 x1:Int) (x2 x3 x4 x5 x6 x7 x8 x9:LL) (x10:Bool) (x11:Int) (x12 x13 x14 x15 x16 x17 x18 x19:LL):Option (Bool):=Zv0.S.g [.i x0,.i x1,.l x2,.l x3,.l x4,.l x5,.l x6,.l x7,.l x8,.l x9,.b x10,.i x11,.l x12,.l x13,.l x14,.l x15,.l x16,.l x17,.l x18,.l x19]
theorem ZqU (x0 x1:Int) (x2 x3 x4 x5 x6 x7 x8 x9:LL) (x10:Bool) (x11:Int) (x12 x13 x14 x15 x16 x17 x18 x19:LL):ZwK x0 x1 x2 x3 x4 x5 x6 x7 x8 x9 x10 x11 x12 x13 x14 x15 x16 x17 x18 x19 =
 (if (cop .eql x0 0)=true then
 (Zuc x1 x2 x3).bind fun (r20:Bool)=>
 if r20=true then
 (Zti x4 x5 x6 x7 x8 x9).bind fun (r21:Bool)=>
 if r21=true then
 if (!x10)=true then
 (Zuc x11 x12 x13).bind fun (r22:Bool)=>
 if r22=true then
 (Zti x14 x15 x16 x17 x18 x19).bind fun (r23:Bool)=>
 some (r23)
 else
 some (false)
 else
 some (false)
 else
 some (false)
 else
 some (false)
 else
 some (false)):=by kernel_rfl
noncomputable def F70:Fn:=⟨81,[2],[],[],0,[],[],Tryz.f70,[.agg hs0],[.c (.bool)],[(130,ZvP.S),(131,ZsT.S),(132,Zsu.S),(133,Zv0.S)]⟩
theorem Zzd:F70.S.Ok Tryz.prog 70:=F70.ok Tryz.func70 (by kernel_rfl) ⟨Zw2,⟨ZtY,⟨Zuy,⟨ZxS,trivial⟩⟩⟩⟩
noncomputable def g70 (x0 x1 x2 x3 x4 x5 x6 x7 x8 x9 x10:Int) (x11:Bool) (x12 x13 x14 x15 x16 x17 x18 x19 x20 x21 x22 x23 x24 x25 x26 x27 x28 x29 x30 x31:Int) (x32:LL) (x33 x34 x35 x36 x37 x38:Int) (x39:Bool) (x40 x41 x42 x43:LL) (x44 x45:Int) (x46 x47 x48 x49 x50 x51 x52 x53:LL) (x54 x55:Int) (x56 x57 x58 x59 x60 x61 x62 x63:LL) (x64:Bool) (x65:Int) (x66 x67 x68 x69 x70 x71 x72 x73:LL):Option (Bool):=F70.S.g [.i x0,.i x1,.i x2,.i x3,.i x4,.i x5,.i x6,.i x7,.i x8,.i x9,.i x10,.b x11,.i x12,.i x13,.i x14,.i x15,.i x16,.i x17,.i x18,.i x19,.i x20,.i x21,.i x22,.i x23,.i x24,.i x25,.i x26,.i x27,.i x28,.i x29,.i x30,.i x31,.l x32,.i x33,.i x34,.i x35,.i x36,.i x37,.i x38,.b x39,.l x40,.l x41,.l x42,.l x43,.i x44,.i x45,.l x46,.l x47,.l x48,.l x49,.l x50,.l x51,.l x52,.l x53,.i x54,.i x55,.l x56,.l x57,.l x58,.l x59,.l x60,.l x61,.l x62,.l x63,.b x64,.i x65,.l x66,.l x67,.l x68,.l x69,.l x70,.l x71,.l x72,.l x73]
theorem Zt2 (x0 x1 x2 x3 x4 x5 x6 x7 x8 x9 x10:Int) (x11:Bool) (x12 x13 x14 x15 x16 x17 x18 x19 x20 x21 x22 x23 x24 x25 x26 x27 x28 x29 x30 x31:Int) (x32:LL) (x33 x34 x35 x36 x37 x38:Int) (x39:Bool) (x40 x41 x42 x43:LL) (x44 x45:Int) (x46 x47 x48 x49 x50 x51 x52 x53:LL) (x54 x55:Int) (x56 x57 x58 x59 x60 x61 x62 x63:LL) (x64:Bool) (x65:Int) (x66 x67 x68 x69 x70 x71 x72 x73:LL):g70 x0 x1 x2 x3 x4 x5 x6 x7 x8 x9 x10 x11 x12 x13 x14 x15 x16 x17 x18 x19 x20 x21 x22 x23 x24 x25 x26 x27 x28 x29 x30 x31 x32 x33 x34 x35 x36 x37 x38 x39 x40 x41 x42 x43 x44 x45 x46 x47 x48 x49 x50 x51 x52 x53 x54 x55 x56 x57 x58 x59 x60 x61 x62 x63 x64 x65 x66 x67 x68 x69 x70 x71 x72 x73 =
 (if (cop .eql x4 0)=true then
 if (cop .eql x5 0)=true then
 if (cop .eql x6 0)=true then
 if ((cop .eql x7 0)&&((cop .eql x8 0)&&((cop .eql x9 0)&&true)))=true then
 if (cop .eql x10 0)=true then
 if (!x11)=true then
 (ZwL x12 x13 x14 x15 x16 x17 x18 x19 x20 x21 x22 x23 x24 x25 x26 x27 x28 x29 x30 x31 x32 x33 x34 x35 x36 x37 x38 x39).bind fun (r74:Bool)=>
 if r74=true then
 if (cop .eql (List.length x40:Int) 0)=true then
 if (cop .eql (List.length x41:Int) 0)=true then
 if (cop .eql (List.length x42:Int) 0)=true then
 if (cop .eql (List.length x43:Int) 0)=true then
 if (cop .eql x44 0)=true then
 (Zuc x45 x46 x47).bind fun (r75:Bool)=>
 if r75=true then
 (Zti x48 x49 x50 x51 x52 x53).bind fun (r76:Bool)=>
 if r76=true then
 (ZwK x54 x55 x56 x57 x58 x59 x60 x61 x62 x63 x64 x65 x66 x67 x68 x69 x70 x71 x72 x73).bind fun (r77:Bool)=>
 some (r77)
 else
 some (false)
 else
 some (false)
 else
 some (false)
 else
 some (false)
 else
 some (false)
 else
 some (false)
 else
 some (false)
 else
 some (false)
 else
 some (false)
 else
 some (false)
 else
 some (false)
 else
 some (false)
 else
 some (false)
 else
 some (false)):=by kernel_rfl
noncomputable def F40:Fn:=⟨50,[2],[(6,[(1,.box hs0),(5,.box hs0),(35,.c (.slice 1)),(36,.c (.int .i64)),(37,.c (.int .i64))])],[],0,[],[],Tryz.f40,[.agg hs0],[.c (.bool)],[(65,F65.S),(66,F66.S),(67,F67.S),(68,F68.S),(69,F69.S),(70,F70.S)]⟩
theorem ZAc:F40.S.Ok Tryz.prog 40:=F40.ok Tryz.func40 (by kernel_rfl) ⟨Zzs,⟨Zwu,⟨Zp5,⟨Zzx,⟨ZzD,⟨Zzd,trivial⟩⟩⟩⟩⟩⟩
noncomputable def g40 (x0 x1 x2 x3 x4 x5 x6 x7 x8 x9 x10:Int) (x11:Bool) (x12 x13 x14 x15 x16 x17 x18 x19 x20 x21 x22 x23 x24 x25 x26 x27 x28 x29 x30 x31:Int) (x32:LL) (x33 x34 x35 x36 x37 x38:Int) (x39:Bool) (x40 x41 x42 x43:LL) (x44 x45:Int) (x46 x47 x48 x49 x50 x51 x52 x53:LL) (x54 x55:Int) (x56 x57 x58 x59 x60 x61 x62 x63:LL) (x64:Bool) (x65:Int) (x66 x67 x68 x69 x70 x71 x72 x73:LL):Option (Bool):=F40.S.g [.i x0,.i x1,.i x2,.i x3,.i x4,.i x5,.i x6,.i x7,.i x8,.i x9,.i x10,.b x11,.i x12,.i x13,.i x14,.i x15,.i x16,.i x17,.i x18,.i x19,.i x20,.i x21,.i x22,.i x23,.i x24,.i x25,.i x26,.i x27,.i x28,.i x29,.i x30,.i x31,.l x32,.i x33,.i x34,.i x35,.i x36,.i x37,.i x38,.b x39,.l x40,.l x41,.l x42,.l x43,.i x44,.i x45,.l x46,.l x47,.l x48,.l x49,.l x50,.l x51,.l x52,.l x53,.i x54,.i x55,.l x56,.l x57,.l x58,.l x59,.l x60,.l x61,.l x62,.l x63,.b x64,.i x65,.l x66,.l x67,.l x68,.l x69,.l x70,.l x71,.l x72,.l x73]
noncomputable def Zph (k:Nat) (x0 x1 x2 x3 x4 x5 x6 x7 x8 x9 x10:Int) (x11:Bool) (x12 x13 x14 x15 x16 x17 x18 x19 x20 x21 x22 x23 x24 x25 x26 x27 x28 x29 x30 x31:Int) (x32:LL) (x33 x34 x35 x36 x37 x38:Int) (x39:Bool) (x40 x41 x42 x43:LL) (x44 x45:Int) (x46 x47 x48 x49 x50 x51 x52 x53:LL) (x54 x55:Int) (x56 x57 x58 x59 x60 x61 x62 x63:LL) (x64:Bool) (x65:Int) (x66 x67 x68 x69 x70 x71 x72 x73:LL) (x74 x75 x76 x77 x78 x79 x80 x81 x82 x83 x84:Int) (x85:Bool) (x86 x87 x88 x89 x90 x91 x92 x93 x94 x95 x96 x97 x98 x99 x100 x101 x102 x103 x104 x105:Int) (x106:LL) (x107 x108 x109 x110 x111 x112:Int) (x113:Bool) (x114 x115 x116 x117:LL) (x118 x119:Int) (x120 x121 x122 x123 x124 x125 x126 x127:LL) (x128 x129:Int) (x130 x131 x132 x133 x134 x135 x136 x137:LL) (x138:Bool) (x139:Int) (x140 x141 x142 x143 x144 x145 x146 x147 x148:LL) (x149 x150:Int):Option (Bool):=F40.lp [0,1,0,1,0,1,0,1,0] 0 r0 k [.i x0,.i x1,.i x2,.i x3,.i x4,.i x5,.i x6,.i x7,.i x8,.i x9,.i x10,.b x11,.i x12,.i x13,.i x14,.i x15,.i x16,.i x17,.i x18,.i x19,.i x20,.i x21,.i x22,.i x23,.i x24,.i x25,.i x26,.i x27,.i x28,.i x29,.i x30,.i x31,.l x32,.i x33,.i x34,.i x35,.i x36,.i x37,.i x38,.b x39,.l x40,.l x41,.l x42,.l x43,.i x44,.i x45,.l x46,.l x47,.l x48,.l x49,.l x50,.l x51,.l x52,.l x53,.i x54,.i x55,.l x56,.l x57,.l x58,.l x59,.l x60,.l x61,.l x62,.l x63,.b x64,.i x65,.l x66,.l x67,.l x68,.l x69,.l x70,.l x71,.l x72,.l x73,.i x74,.i x75,.i x76,.i x77,.i x78,.i x79,.i x80,.i x81,.i x82,.i x83,.i x84,.b x85,.i x86,.i x87,.i x88,.i x89,.i x90,.i x91,.i x92,.i x93,.i x94,.i x95,.i x96,.i x97,.i x98,.i x99,.i x100,.i x101,.i x102,.i x103,.i x104,.i x105,.l x106,.i x107,.i x108,.i x109,.i x110,.i x111,.i x112,.b x113,.l x114,.l x115,.l x116,.l x117,.i x118,.i x119,.l x120,.l x121,.l x122,.l x123,.l x124,.l x125,.l x126,.l x127,.i x128,.i x129,.l x130,.l x131,.l x132,.l x133,.l x134,.l x135,.l x136,.l x137,.b x138,.i x139,.l x140,.l x141,.l x142,.l x143,.l x144,.l x145,.l x146,.l x147,.l x148,.i x149,.i x150]
theorem ZiX (k:Nat) (x0 x1 x2 x3 x4 x5 x6 x7 x8 x9 x10:Int) (x11:Bool) (x12 x13 x14 x15 x16 x17 x18 x19 x20 x21 x22 x23 x24 x25 x26 x27 x28 x29 x30 x31:Int) (x32:LL) (x33 x34 x35 x36 x37 x38:Int) (x39:Bool) (x40 x41 x42 x43:LL) (x44 x45:Int) (x46 x47 x48 x49 x50 x51 x52 x53:LL) (x54 x55:Int) (x56 x57 x58 x59 x60 x61 x62 x63:LL) (x64:Bool) (x65:Int) (x66 x67 x68 x69 x70 x71 x72 x73:LL) (x74 x75 x76 x77 x78 x79 x80 x81 x82 x83 x84:Int) (x85:Bool) (x86 x87 x88 x89 x90 x91 x92 x93 x94 x95 x96 x97 x98 x99 x100 x101 x102 x103 x104 x105:Int) (x106:LL) (x107 x108 x109 x110 x111 x112:Int) (x113:Bool) (x114 x115 x116 x117:LL) (x118 x119:Int) (x120 x121 x122 x123 x124 x125 x126 x127:LL) (x128 x129:Int) (x130 x131 x132 x133 x134 x135 x136 x137:LL) (x138:Bool) (x139:Int) (x140 x141 x142 x143 x144 x145 x146 x147 x148:LL) (x149 x150:Int):Zph (k+1) x0 x1 x2 x3 x4 x5 x6 x7 x8 x9 x10 x11 x12 x13 x14 x15 x16 x17 x18 x19 x20 x21 x22 x23 x24 x25 x26 x27 x28 x29 x30 x31 x32 x33 x34 x35 x36 x37 x38 x39 x40 x41 x42 x43 x44 x45 x46 x47 x48 x49 x50 x51 x52 x53 x54 x55 x56 x57 x58 x59 x60 x61 x62 x63 x64 x65 x66 x67 x68 x69 x70 x71 x72 x73 x74 x75 x76 x77 x78 x79 x80 x81 x82 x83 x84 x85 x86 x87 x88 x89 x90 x91 x92 x93 x94 x95 x96 x97 x98 x99 x100 x101 x102 x103 x104 x105 x106 x107 x108 x109 x110 x111 x112 x113 x114 x115 x116 x117 x118 x119 x120 x121 x122 x123 x124 x125 x126 x127 x128 x129 x130 x131 x132 x133 x134 x135 x136 x137 x138 x139 x140 x141 x142 x143 x144 x145 x146 x147 x148 x149 x150 =
 (if (cop .lss x150 x149)=true then
 Zi x148 x150 [.int .i64] fun (r151:Int)=>
 (g68 x0 x1 x2 x3 x4 x5 x6 x7 x8 x9 x10 x11 x12 x13 x14 x15 x16 x17 x18 x19 x20 x21 x22 x23 x24 x25 x26 x27 x28 x29 x30 x31 x32 x33 x34 x35 x36 x37 x38 x39 x40 x41 x42 x43 x44 x45 x46 x47 x48 x49 x50 x51 x52 x53 x54 x55 x56 x57 x58 x59 x60 x61 x62 x63 x64 x65 x66 x67 x68 x69 x70 x71 x72 x73 r151).bind fun (r152:Bool)=>
 if (!r152)=true then
 some (false)
 else
 (g69 x74 x75 x76 x77 x78 x79 x80 x81 x82 x83 x84 x85 x86 x87 x88 x89 x90 x91 x92 x93 x94 x95 x96 x97 x98 x99 x100 x101 x102 x103 x104 x105 x106 x107 x108 x109 x110 x111 x112 x113 x114 x115 x116 x117 x118 x119 x120 x121 x122 x123 x124 x125 x126 x127 x128 x129 x130 x131 x132 x133 x134 x135 x136 x137 x138 x139 x140 x141 x142 x143 x144 x145 x146 x147 r151).bind fun (r153:Qt2)=>
 Zph k x0 x1 x2 x3 x4 x5 x6 x7 x8 x9 x10 x11 x12 x13 x14 x15 x16 x17 x18 x19 x20 x21 x22 x23 x24 x25 x26 x27 x28 x29 x30 x31 x32 x33 x34 x35 x36 x37 x38 x39 x40 x41 x42 x43 x44 x45 x46 x47 x48 x49 x50 x51 x52 x53 x54 x55 x56 x57 x58 x59 x60 x61 x62 x63 x64 x65 x66 x67 x68 x69 x70 x71 x72 x73 r153.1 r153.2.1 r153.2.2.1 r153.2.2.2.1 r153.2.2.2.2.1 r153.2.2.2.2.2.1 r153.2.2.2.2.2.2.1 r153.2.2.2.2.2.2.2.1 r153.2.2.2.2.2.2.2.2.1 r153.2.2.2.2.2.2.2.2.2.1 r153.2.2.2.2.2.2.2.2.2.2.1 r153.2.2.2.2.2.2.2.2.2.2.2.1 (d4 (d8 r153)).1 (d4 (d8 r153)).2.1 (d2 (d4 (d8 r153))).1 (d2 (d4 (d8 r153))).2.1 (d16 r153).1 (d16 r153).2.1 (d2 (d16 r153)).1 (d2 (d16 r153)).2.1 (d4 (d16 r153)).1 (d4 (d16 r153)).2.1 (d2 (d4 (d16 r153))).1 (d2 (d4 (d16 r153))).2.1 (d8 (d16 r153)).1 (d8 (d16 r153)).2.1 (d2 (d8 (d16 r153))).1 (d2 (d8 (d16 r153))).2.1 (d4 (d8 (d16 r153))).1 (d4 (d8 (d16 r153))).2.1 (d2 (d4 (d8 (d16 r153)))).1 (d2 (d4 (d8 (d16 r153)))).2.1 (d16 (d16 r153)).1 (d16 (d16 r153)).2.1 (d2 (d16 (d16 r153))).1 (d2 (d16 (d16 r153))).2.1 (d4 (d16 (d16 r153))).1 (d4 (d16 (d16 r153))).2.1 (d2 (d4 (d16 (d16 r153)))).1 (d2 (d4 (d16 (d16 r153)))).2.1 (d8 (d16 (d16 r153))).1 (d8 (d16 (d16 r153))).2.1 (d2 (d8 (d16 (d16 r153)))).1 (d2 (d8 (d16 (d16 r153)))).2.1 (d4 (d8 (d16 (d16 r153)))).1 (d4 (d8 (d16 (d16 r153)))).2.1 (d2 (d4 (d8 (d16 (d16 r153))))).1 (d2 (d4 (d8 (d16 (d16 r153))))).2.1 (d16 (d16 (d16 r153))).1 (d16 (d16 (d16 r153))).2.1 (d2 (d16 (d16 (d16 r153)))).1 (d2 (d16 (d16 (d16 r153)))).2.1 (d4 (d16 (d16 (d16 r153)))).1 (d4 (d16 (d16 (d16 r153)))).2.1 (d2 (d4 (d16 (d16 (d16 r153))))).1 (d2 (d4 (d16 (d16 (d16 r153))))).2.1 (d8 (d16 (d16 (d16 r153)))).1 (d8 (d16 (d16 (d16 r153)))).2.1 (d2 (d8 (d16 (d16 (d16 r153))))).1 (d2 (d8 (d16 (d16 (d16 r153))))).2.1 (d4 (d8 (d16 (d16 (d16 r153))))).1 (d4 (d8 (d16 (d16 (d16 r153))))).2.1 (d2 (d4 (d8 (d16 (d16 (d16 r153)))))).1 (d2 (d4 (d8 (d16 (d16 (d16 r153)))))).2.1 (d16 (d16 (d16 (d16 r153)))).1 (d16 (d16 (d16 (d16 r153)))).2.1 (d2 (d16 (d16 (d16 (d16 r153))))).1 (d2 (d16 (d16 (d16 (d16 r153))))).2.1 (d4 (d16 (d16 (d16 (d16 r153))))).1 (d4 (d16 (d16 (d16 (d16 r153))))).2.1 (d2 (d4 (d16 (d16 (d16 (d16 r153)))))).1 (d2 (d4 (d16 (d16 (d16 (d16 r153)))))).2.1 (d8 (d16 (d16 (d16 (d16 r153))))).1 (d8 (d16 (d16 (d16 (d16 r153))))).2 x148 x149 (iop .add .i64 x150 1)
 else
 (g70 x74 x75 x76 x77 x78 x79 x80 x81 x82 x83 x84 x85 x86 x87 x88 x89 x90 x91 x92 x93 x94 x95 x96 x97 x98 x99 x100 x101 x102 x103 x104 x105 x106 x107 x108 x109 x110 x111 x112 x113 x114 x115 x116 x117 x118 x119 x120 x121 x122 x123 x124 x125 x126 x127 x128 x129 x130 x131 x132 x133 x134 x135 x136 x137 x138 x139 x140 x141 x142 x143 x144 x145 x146 x147).bind fun (r151:Bool)=>
 some (r151)):=by kernel_rfl
theorem ZsE (x0 x1 x2 x3 x4 x5 x6 x7 x8 x9 x10:Int) (x11:Bool) (x12 x13 x14 x15 x16 x17 x18 x19 x20 x21 x22 x23 x24 x25 x26 x27 x28 x29 x30 x31:Int) (x32:LL) (x33 x34 x35 x36 x37 x38:Int) (x39:Bool) (x40 x41 x42 x43:LL) (x44 x45:Int) (x46 x47 x48 x49 x50 x51 x52 x53:LL) (x54 x55:Int) (x56 x57 x58 x59 x60 x61 x62 x63:LL) (x64:Bool) (x65:Int) (x66 x67 x68 x69 x70 x71 x72 x73:LL):g40 x0 x1 x2 x3 x4 x5 x6 x7 x8 x9 x10 x11 x12 x13 x14 x15 x16 x17 x18 x19 x20 x21 x22 x23 x24 x25 x26 x27 x28 x29 x30 x31 x32 x33 x34 x35 x36 x37 x38 x39 x40 x41 x42 x43 x44 x45 x46 x47 x48 x49 x50 x51 x52 x53 x54 x55 x56 x57 x58 x59 x60 x61 x62 x63 x64 x65 x66 x67 x68 x69 x70 x71 x72 x73 =
 ((g65 x0).bind fun (r74:LL×Bool)=>
 if (!r74.2)=true then
 some (false)
 else
 (g66 x1).bind fun (r76:Bool)=>
 if (!r76)=true then
 some (false)
 else
 (g67 x2).bind fun (r77:Bool)=>
 if (!r77)=true then
 some (false)
 else
 (g67 x3).bind fun (r78:Bool)=>
 if (!r78)=true then
 some (false)
 else
 Zph Zx x0 x1 x2 x3 x4 x5 x6 x7 x8 x9 x10 x11 x12 x13 x14 x15 x16 x17 x18 x19 x20 x21 x22 x23 x24 x25 x26 x27 x28 x29 x30 x31 x32 x33 x34 x35 x36 x37 x38 x39 x40 x41 x42 x43 x44 x45 x46 x47 x48 x49 x50 x51 x52 x53 x54 x55 x56 x57 x58 x59 x60 x61 x62 x63 x64 x65 x66 x67 x68 x69 x70 x71 x72 x73 x0 x1 x2 x3 x4 x5 x6 x7 x8 x9 x10 x11 x12 x13 x14 x15 x16 x17 x18 x19 x20 x21 x22 x23 x24 x25 x26 x27 x28 x29 x30 x31 x32 x33 x34 x35 x36 x37 x38 x39 x40 x41 x42 x43 x44 x45 x46 x47 x48 x49 x50 x51 x52 x53 x54 x55 x56 x57 x58 x59 x60 x61 x62 x63 x64 x65 x66 x67 x68 x69 x70 x71 x72 x73 r74.1 (List.length r74.1:Int) 0):=by kernel_rfl
end Go.Proofs.YtljejgmcgddppaaGreat
