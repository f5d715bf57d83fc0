/- Functions of the program, as what they compute. -/
import Derived.Test.YtljejgmcgddppaaGreatF23b
namespace Go.Proofs.YtljejgmcgddppaaGreat
open Go Go.AM
set_option linter.unusedVariables false
set_option maxRecDepth 100000
noncomputable def F7:Fn:=⟨70,[0],[],[],0,[],[],Tryz.f7,[],[.c (.bool)],[(15,F15.S)]⟩
theorem ok7:F7.S.Ok Tryz.prog 7:=F7.ok Tryz.func7 (by kernel_rfl) ⟨ZyO,trivial⟩
noncomputable def g7:Option (Bool):=F7.S.g []
noncomputable def F13:Fn:=⟨73,[8],[(6,[(9,.c (.slice 15)),(10,.c (.slice 4)),(11,.c (.slice 74)),(12,.c (.slice 4)),(13,.c (.slice 15)),(14,.c (.slice 4)),(15,.c (.slice 74)),(16,.c (.slice 4)),(17,.c (.int .i64))])],[],0,[],[],Tryz.f13,[.c (.int .i64),.c (.slice 15),.c (.slice 4),.agg hs0],[.c (.bool)],[(16,F16.S),(15,F15.S),(35,F35.S),(22,F22.S),(36,F36.S),(37,F37.S)]⟩
noncomputable def g13 (x0:Int) (x1 x2:LL) (x3 x4 x5 x6 x7 x8 x9 x10 x11 x12 x13:Int) (x14:Bool) (x15 x16 x17 x18 x19 x20 x21 x22 x23 x24 x25 x26 x27 x28 x29 x30 x31 x32 x33 x34:Int) (x35:LL) (x36 x37 x38 x39 x40 x41:Int) (x42:Bool) (x43 x44 x45 x46:LL) (x47 x48:Int) (x49 x50 x51 x52 x53 x54 x55 x56:LL) (x57 x58:Int) (x59 x60 x61 x62 x63 x64 x65 x66:LL) (x67:Bool) (x68:Int) (x69 x70 x71 x72 x73 x74 x75 x76:LL):Option (Bool):=F13.S.g [.i x0,.l x1,.l x2,.i x3,.i x4,.i x5,.i x6,.i x7,.i x8,.i x9,.i x10,.i x11,.i x12,.i x13,.b x14,.i x15,.i x16,.i x17,.i x18,.i x19,.i x20,.i x21,.i x22,.i x23,.i x24,.i x25,.i x26,.i x27,.i x28,.i x29,.i x30,.i x31,.i x32,.i x33,.i x34,.l x35,.i x36,.i x37,.i x38,.i x39,.i x40,.i x41,.b x42,.l x43,.l x44,.l x45,.l x46,.i x47,.i x48,.l x49,.l x50,.l x51,.l x52,.l x53,.l x54,.l x55,.l x56,.i x57,.i x58,.l x59,.l x60,.l x61,.l x62,.l x63,.l x64,.l x65,.l x66,.b x67,.i x68,.l x69,.l x70,.l x71,.l x72,.l x73,.l x74,.l x75,.l x76]
noncomputable def Zk4 (k:Nat) (x0 x1 x2 x3 x4 x5 x6 x7:LL) (x8:Int):Option (Bool):=F13.lp [4,1,0] 0 r0 k [.l x0,.l x1,.l x2,.l x3,.l x4,.l x5,.l x6,.l x7,.i x8]
theorem ZjV (k:Nat) (x0 x1 x2 x3 x4 x5 x6 x7:LL) (x8:Int):Zk4 (k+1) x0 x1 x2 x3 x4 x5 x6 x7 x8 =
 (if (cop .lss x8 (List.length x3:Int))=true then
 Zi x3 x8 [.int .i64,.int .i64,.int .i64,.bool] fun (r9:Int×Int×Int×Bool)=>
 Zi x7 x8 [.int .i64,.int .i64,.int .i64,.bool] fun (r13:Int×Int×Int×Bool)=>
 if (!((cop .eql r9.1 r13.1)&&((cop .eql r9.2.1 r13.2.1)&&((cop .eql r9.2.2.1 r13.2.2.1)&&((r9.2.2.2 == r13.2.2.2)&&true)))))=true then
 some (false)
 else
 Zk4 k x0 x1 x2 x3 x4 x5 x6 x7 (iop .add .i64 x8 1)
 else
 (g22 x0 x4).bind fun (r9:Bool)=>
 if r9=true then
 (g36 x1 x5).bind fun (r10:Bool)=>
 if r10=true then
 (g37 x2 x6).bind fun (r11:Bool)=>
 some (r11)
 else
 some (false)
 else
 some (false)):=by kernel_rfl
theorem ZtV (x0:Int) (x1 x2:LL) (x3 x4 x5 x6 x7 x8 x9 x10 x11 x12 x13:Int) (x14:Bool) (x15 x16 x17 x18 x19 x20 x21 x22 x23 x24 x25 x26 x27 x28 x29 x30 x31 x32 x33 x34:Int) (x35:LL) (x36 x37 x38 x39 x40 x41:Int) (x42:Bool) (x43 x44 x45 x46:LL) (x47 x48:Int) (x49 x50 x51 x52 x53 x54 x55 x56:LL) (x57 x58:Int) (x59 x60 x61 x62 x63 x64 x65 x66:LL) (x67:Bool) (x68:Int) (x69 x70 x71 x72 x73 x74 x75 x76:LL):g13 x0 x1 x2 x3 x4 x5 x6 x7 x8 x9 x10 x11 x12 x13 x14 x15 x16 x17 x18 x19 x20 x21 x22 x23 x24 x25 x26 x27 x28 x29 x30 x31 x32 x33 x34 x35 x36 x37 x38 x39 x40 x41 x42 x43 x44 x45 x46 x47 x48 x49 x50 x51 x52 x53 x54 x55 x56 x57 x58 x59 x60 x61 x62 x63 x64 x65 x66 x67 x68 x69 x70 x71 x72 x73 x74 x75 x76 =
 ((g16 x1).bind fun (r77:LL)=>
 Zw (Ja E0 x2 32)<|
 (g15 x0 r77 x2 x3 x4 x5 x6 x7 x8 x9 x10 x11 x12 x13 x14 x15 x16 x17 x18 x19 x20 x21 x22 x23 x24 x25 x26 x27 x28 x29 x30 x31 x32 x33 x34 x35 x36 x37 x38 x39 x40 x41 x42 x43 x44 x45 x46 x47 x48 x49 x50 x51 x52 x53 x54 x55 x56 x57 x58 x59 x60 x61 x62 x63 x64 x65 x66 x67 x68 x69 x70 x71 x72 x73 x74 x75 x76).bind fun (r78:LL×LL×LL×LL)=>
 (g35 x0 x1 x2 x3 x4 x5 x6 x7 x8 x9 x10 x11 x12 x13 x14 x15 x16 x17 x18 x19 x20 x21 x22 x23 x24 x25 x26 x27 x28 x29 x30 x31 x32 x33 x34 x35 x36 x37 x38 x39 x40 x41 x42 x43 x44 x45 x46 x47 x48 x49 x50 x51 x52 x53 x54 x55 x56 x57 x58 x59 x60 x61 x62 x63 x64 x65 x66 x67 x68 x69 x70 x71 x72 x73 x74 x75 x76).bind fun (r82:LL×LL×LL×LL)=>
 if (cop .neq (List.length r78.2.2.2:Int) (List.length r82.2.2.2:Int))=true then
 some (false)
 else
 Zk4 Zx r78.1 r78.2.1 r78.2.2.1 r78.2.2.2 r82.1 r82.2.1 r82.2.2.1 r82.2.2.2 0):=by kernel_rfl
noncomputable def F25:Fn:=⟨17,[4],[],[],0,[],[],Tryz.f25,[.c (.slice 1),.c (.int .i64)],[.c (.int .i64)],[]⟩
theorem ZyJ:F25.S.Ok Tryz.prog 25:=F25.ok Tryz.func25 (by kernel_rfl) trivial
noncomputable def g25 (x0:LL) (x1:Int):Option (Int):=F25.S.g [.l x0,.i x1]
theorem Zt7 (x0:LL) (x1:Int):g25 x0 x1 =
 (if (cop .lss x1 0)=true then
 some (0)
 else
 if (cop .geq x1 (List.length x0:Int))=true then
 some (0)
 else
 Zi x0 x1 [.int .i64] fun (r2:Int)=>
 some (r2)):=by kernel_rfl
noncomputable def F9:Fn:=⟨16,[4],[],[],0,[],[],Tryz.f9,[.c (.int .i64),.c (.int .i64)],[.c (.int .i64)],[]⟩
theorem ok9:F9.S.Ok Tryz.prog 9:=F9.ok Tryz.func9 (by kernel_rfl) trivial
noncomputable def g9 (x0 x1:Int):Option (Int):=F9.S.g [.i x0,.i x1]
theorem Zx2 (x0 x1:Int):g9 x0 x1 =
 (if (cop .lss x1 1)=true then
 some (0)
 else
 Zw ((x1:Int)≠0)<|
 if (cop .lss (iop .rem .i64 x0 x1) 0)=true then
 some ((iop .add .i64 (iop .rem .i64 x0 x1) x1))
 else
 some ((iop .rem .i64 x0 x1))):=by kernel_rfl
noncomputable def F12:Fn:=⟨28,[4],[(3,[(0,.c (.slice 13)),(1,.c (.slice 1)),(5,.c (.own false 37)),(6,.c (.int .i64))])],[],0,[],[],Tryz.f12,[.c (.slice 13),.c (.slice 1)],[.c (.own false 37)],[(25,F25.S),(9,F9.S)]⟩
noncomputable def g12 (x0 x1:LL):Option (LL):=F12.S.g [.l x0,.l x1]
noncomputable def ZhQ (k:Nat) (x0 x1 x2:LL) (x3:Int):Option (LL):=F12.lp [0] 0 r0 k [.l x0,.l x1,.l x2,.i x3]
theorem ZjG (k:Nat) (x0 x1 x2:LL) (x3:Int):ZhQ (k+1) x0 x1 x2 x3 =
 (if (cop .lss x3 (List.length x0:Int))=true then
 (g25 x1 x3).bind fun (r4:Int)=>
 (g9 r4 2).bind fun (r5:Int)=>
 if (cop .eql r5 1)=true then
 Zi x0 x3 hs7 fun (r6:Qt12)=>
 Zw (Ja x2 (E0++[[AV.val (.int .i64 r6.2.2.1),AV.val (.int .i64 r6.2.2.2.1),AV.val (.int .i64 r6.2.2.2.2.1)]]) 24)<|
 ZhQ k x0 x1 (x2++(E0++[[AV.val (.int .i64 r6.2.2.1),AV.val (.int .i64 r6.2.2.2.1),AV.val (.int .i64 r6.2.2.2.2.1)]])) (iop .add .i64 x3 1)
 else
 ZhQ k x0 x1 x2 (iop .add .i64 x3 1)
 else
 some (x2)):=by kernel_rfl
theorem ZsW (x0 x1:LL):g12 x0 x1 =
 (ZhQ Zx x0 x1 E0 0):=by kernel_rfl
noncomputable def F17:Fn:=⟨14,[8],[],[],0,[],[],Tryz.f17,[.c (.int .i64),.c (.int .i64),.agg [.int .i64,.int .i64,.int .i64],.c (.slice 3)],[.agg hs0],[]⟩
noncomputable def F78:Fn:=⟨20,[4],[],[],0,[],[],Tryz.f78,[.c (.int .i64),.c (.int .i64)],[.agg [.int .i64,.int .i64]],[(9,F9.S)]⟩
theorem ZAw:F78.S.Ok Tryz.prog 78:=F78.ok Tryz.func78 (by kernel_rfl) ⟨ok9,trivial⟩
noncomputable def g78 (x0 x1:Int):Option (Int×Int):=F78.S.g [.i x0,.i x1]
theorem ZtC (x0 x1:Int):g78 x0 x1 =
 ((g9 x1 11).bind fun (r2:Int)=>
 Zw ((0:Int)≤(IntKind.wrap .u64 (iop .sub .i64 16 (iop .add .i64 6 r2))))<|
 (g9 x0 (iop .shl .i64 1 (IntKind.wrap .u64 (iop .sub .i64 16 (iop .add .i64 6 r2))))).bind fun (r3:Int)=>
 Zw ((0:Int)≤(IntKind.wrap .u64 (iop .add .i64 6 r2)))<|
 some ((iop .shl .i64 r3 (IntKind.wrap .u64 (iop .add .i64 6 r2))),(iop .add .i64 6 r2))):=by kernel_rfl
noncomputable def F47:Fn:=⟨14,[4],[],[],0,[],[],Tryz.f47,[.c (.int .i64),.c (.int .i64)],[.agg hs13],[(78,F78.S)]⟩
theorem Zzn:F47.S.Ok Tryz.prog 47:=F47.ok Tryz.func47 (by kernel_rfl) ⟨ZAw,trivial⟩
noncomputable def g47 (x0 x1:Int):Option (Qt18):=F47.S.g [.i x0,.i x1]
theorem ZuY (x0 x1:Int):g47 x0 x1 =
 ((g78 x0 x1).bind fun (r2:Int×Int)=>
 some (1,r2.1,r2.2,7,0,0,false)):=by kernel_rfl
noncomputable def F79:Fn:=⟨21,[4],[(2,[(0,.c (.slice 13)),(3,.box [.int .i64,.int .i64,.int .i64]),(5,.c (.int .i64))])],[],0,[],[],Tryz.f79,[.c (.slice 13),.agg [.int .i64,.int .i64,.int .i64]],[.c (.int .i64)],[]⟩
theorem Zyx:F79.S.Ok Tryz.prog 79:=F79.ok Tryz.func79 (by kernel_rfl) trivial
noncomputable def g79 (x0:LL) (x1 x2 x3:Int):Option (Int):=F79.S.g [.l x0,.i x1,.i x2,.i x3]
noncomputable def Zlj (k:Nat) (x0:LL) (x1 x2 x3 x4:Int):Option (Int):=F79.lp [0] 0 r0 k [.l x0,.i x1,.i x2,.i x3,.i x4]
theorem Zkh (k:Nat) (x0:LL) (x1 x2 x3 x4:Int):Zlj (k+1) x0 x1 x2 x3 x4 =
 (if (cop .lss x4 (List.length x0:Int))=true then
 Zi x0 x4 hs7 fun (r5:Qt12)=>
 if ((cop .eql r5.2.2.1 x1)&&((cop .eql r5.2.2.2.1 x2)&&((cop .eql r5.2.2.2.2.1 x3)&&true)))=true then
 some (x4)
 else
 Zlj k x0 x1 x2 x3 (iop .add .i64 x4 1)
 else
 some ((-1))):=by kernel_rfl
theorem ZuI (x0:LL) (x1 x2 x3:Int):g79 x0 x1 x2 x3 =
 (Zlj Zx x0 x1 x2 x3 0):=by kernel_rfl
noncomputable def Ztt:Fn:=⟨13,[2],[],[],0,[],[],Tryz.f140,[.agg [.int .i64,.int .i64]],[.c (.int .i64)],[(139,Zqa.S)]⟩
theorem Zu5:Ztt.S.Ok Tryz.prog 140:=Ztt.ok Tryz.func140 (by kernel_rfl) ⟨ZoW,trivial⟩
noncomputable def Zsk (x0 x1:Int):Option (Int):=Ztt.S.g [.i x0,.i x1]
theorem ZqQ (x0 x1:Int):Zsk x0 x1 =
 ((ZpG x0 x1).bind fun (r2:Bool)=>
 if (!r2)=true then
 some (0)
 else
 Zw ((0:Int)≤(IntKind.wrap .u64 x1))<|
 some ((iop .add .i64 x0 (iop .shl .i64 1 (IntKind.wrap .u64 x1))))):=by kernel_rfl
noncomputable def F80:Fn:=⟨25,[4],[],[],0,[],[],Tryz.f80,[.agg [.int .i64,.int .i64],.agg [.int .i64,.int .i64]],[.c (.bool)],[(139,Zqa.S),(140,Ztt.S)]⟩
theorem Zzq:F80.S.Ok Tryz.prog 80:=F80.ok Tryz.func80 (by kernel_rfl) ⟨ZoW,⟨Zu5,trivial⟩⟩
noncomputable def g80 (x0 x1 x2 x3:Int):Option (Bool):=F80.S.g [.i x0,.i x1,.i x2,.i x3]
theorem Zsv (x0 x1 x2 x3:Int):g80 x0 x1 x2 x3 =
 ((ZpG x0 x1).bind fun (r4:Bool)=>
 if r4=true then
 (ZpG x2 x3).bind fun (r5:Bool)=>
 if r5=true then
 if (cop .leq x0 x2)=true then
 (Zsk x2 x3).bind fun (r6:Int)=>
 (Zsk x0 x1).bind fun (r7:Int)=>
 some ((cop .leq r6 r7))
 else
 some (false)
 else
 some (false)
 else
 some (false)):=by kernel_rfl
noncomputable def F82:Fn:=⟨25,[4],[],[],0,[],[],Tryz.f82,[.agg [.int .i64,.int .i64],.agg [.int .i64,.int .i64]],[.c (.bool)],[(139,Zqa.S),(140,Ztt.S)]⟩
theorem Zzu:F82.S.Ok Tryz.prog 82:=F82.ok Tryz.func82 (by kernel_rfl) ⟨ZoW,⟨Zu5,trivial⟩⟩
noncomputable def g82 (x0 x1 x2 x3:Int):Option (Bool):=F82.S.g [.i x0,.i x1,.i x2,.i x3]
theorem Zt1 (x0 x1 x2 x3:Int):g82 x0 x1 x2 x3 =
 ((ZpG x0 x1).bind fun (r4:Bool)=>
 if r4=true then
 (ZpG x2 x3).bind fun (r5:Bool)=>
 if r5=true then
 (Zsk x2 x3).bind fun (r6:Int)=>
 if (cop .lss x0 r6)=true then
 (Zsk x0 x1).bind fun (r7:Int)=>
 some ((cop .lss x2 r7))
 else
 some (false)
 else
 some (false)
 else
 some (false)):=by kernel_rfl
noncomputable def F48:Fn:=⟨64,[6],[(3,[(0,.c (.slice 13)),(2,.c (.slice 7)),(7,.c (.int .i64)),(8,.c (.int .i64))]),(6,[(0,.c (.slice 13)),(2,.c (.slice 7)),(7,.c (.int .i64)),(8,.c (.int .i64)),(9,.c (.int .i64))])],[],0,[],[],Tryz.f48,[.c (.slice 13),.agg [.int .i64,.int .i64,.int .i64],.c (.slice 7)],[.c (.bool)],[(79,F79.S),(81,F81.S),(80,F80.S),(82,F82.S)]⟩
theorem ZzI:F48.S.Ok Tryz.prog 48:=F48.ok Tryz.func48 (by kernel_rfl) ⟨Zyx,⟨Zyu,⟨Zzq,⟨Zzu,trivial⟩⟩⟩⟩
noncomputable def g48 (x0:LL) (x1 x2 x3:Int) (x4:LL):Option (Bool):=F48.S.g [.l x0,.i x1,.i x2,.i x3,.l x4]
noncomputable def ZcO (rec0:List V→Option (Bool)) (k:Nat) (x0 x1:LL) (x2 x3 x4:Int):Option (Bool):=F48.lp [3,0] 1 (Zsi r0 0 rec0) k [.l x0,.l x1,.i x2,.i x3,.i x4]
theorem ZjO (rec0:List V→Option (Bool)) (k:Nat) (x0 x1:LL) (x2 x3 x4:Int):ZcO rec0 (k+1) x0 x1 x2 x3 x4 =
 (if (cop .lss x4 (List.length x0:Int))=true then
 Zi x0 x4 hs7 fun (r5:Qt12)=>
 if (cop .geq x2 0)=true then
 if (cop .eql r5.2.2.2.2.2.2.1 1)=true then
 (g81 r5.2.2.2.2.2.2.1 r5.2.2.2.2.2.2.2.1 r5.2.2.2.2.2.2.2.2.1 r5.2.2.2.2.2.2.2.2.2.1 r5.2.2.2.2.2.2.2.2.2.2.1 r5.2.2.2.2.2.2.2.2.2.2.2.1 (d4 (d8 r5))).bind fun (r18:Int×Int)=>
 Zi x0 x2 hs7 fun (r20:Qt12)=>
 (g81 r20.2.2.2.2.2.2.1 r20.2.2.2.2.2.2.2.1 r20.2.2.2.2.2.2.2.2.1 r20.2.2.2.2.2.2.2.2.2.1 r20.2.2.2.2.2.2.2.2.2.2.1 r20.2.2.2.2.2.2.2.2.2.2.2.1 (d4 (d8 r20))).bind fun (r33:Int×Int)=>
 (g80 r18.1 r18.2 r33.1 r33.2).bind fun (r35:Bool)=>
 (g81 r5.2.2.2.2.2.2.1 r5.2.2.2.2.2.2.2.1 r5.2.2.2.2.2.2.2.2.1 r5.2.2.2.2.2.2.2.2.2.1 r5.2.2.2.2.2.2.2.2.2.2.1 r5.2.2.2.2.2.2.2.2.2.2.2.1 (d4 (d8 r5))).bind fun (r36:Int×Int)=>
 Zi x1 x3 hs13 fun (r38:Qt18)=>
 (g81 r38.1 r38.2.1 r38.2.2.1 r38.2.2.2.1 r38.2.2.2.2.1 r38.2.2.2.2.2.1 r38.2.2.2.2.2.2).bind fun (r45:Int×Int)=>
 (g82 r36.1 r36.2 r45.1 r45.2).bind fun (r47:Bool)=>
 if r47=true then
 if (!r35)=true then
 some (true)
 else
 ZcO rec0 k x0 x1 x2 x3 (iop .add .i64 x4 1)
 else
 ZcO rec0 k x0 x1 x2 x3 (iop .add .i64 x4 1)
 else
 (g81 r5.2.2.2.2.2.2.1 r5.2.2.2.2.2.2.2.1 r5.2.2.2.2.2.2.2.2.1 r5.2.2.2.2.2.2.2.2.2.1 r5.2.2.2.2.2.2.2.2.2.2.1 r5.2.2.2.2.2.2.2.2.2.2.2.1 (d4 (d8 r5))).bind fun (r18:Int×Int)=>
 Zi x1 x3 hs13 fun (r20:Qt18)=>
 (g81 r20.1 r20.2.1 r20.2.2.1 r20.2.2.2.1 r20.2.2.2.2.1 r20.2.2.2.2.2.1 r20.2.2.2.2.2.2).bind fun (r27:Int×Int)=>
 (g82 r18.1 r18.2 r27.1 r27.2).bind fun (r29:Bool)=>
 if r29=true then
 some (true)
 else
 ZcO rec0 k x0 x1 x2 x3 (iop .add .i64 x4 1)
 else
 (g81 r5.2.2.2.2.2.2.1 r5.2.2.2.2.2.2.2.1 r5.2.2.2.2.2.2.2.2.1 r5.2.2.2.2.2.2.2.2.2.1 r5.2.2.2.2.2.2.2.2.2.2.1 r5.2.2.2.2.2.2.2.2.2.2.2.1 (d4 (d8 r5))).bind fun (r18:Int×Int)=>
 Zi x1 x3 hs13 fun (r20:Qt18)=>
 (g81 r20.1 r20.2.1 r20.2.2.1 r20.2.2.2.1 r20.2.2.2.2.1 r20.2.2.2.2.2.1 r20.2.2.2.2.2.2).bind fun (r27:Int×Int)=>
 (g82 r18.1 r18.2 r27.1 r27.2).bind fun (r29:Bool)=>
 if r29=true then
 some (true)
 else
 ZcO rec0 k x0 x1 x2 x3 (iop .add .i64 x4 1)
 else
 rec0 [.l x0,.l x1,.i x2,.i (iop .add .i64 x3 1)]):=by kernel_rfl
noncomputable def ZlP (k:Nat) (x0 x1:LL) (x2 x3:Int):Option (Bool):=F48.lp [2] 0 r0 k [.l x0,.l x1,.i x2,.i x3]
theorem Zkb (k:Nat) (x0 x1:LL) (x2 x3:Int):ZlP (k+1) x0 x1 x2 x3 =
 (if (cop .lss x3 (List.length x1:Int))=true then
 ZcO (F48.lp [2] 0 r0 k) Zx x0 x1 x2 x3 0
 else
 some (false)):=by kernel_rfl
theorem ZuK (x0:LL) (x1 x2 x3:Int) (x4:LL):g48 x0 x1 x2 x3 x4 =
 ((g79 x0 x1 x2 x3).bind fun (r5:Int)=>
 ZlP Zx x0 x4 r5 0):=by kernel_rfl
noncomputable def ZsI:Fn:=⟨31,[6],[(2,[(0,.c (.slice 13)),(1,.c (.int .i64)),(2,.c (.int .i64)),(7,.c (.int .i64))])],[],0,[],[],Tryz.f141,[.c (.slice 13),.c (.int .i64),.c (.int .i64)],[.c (.int .i64)],[]⟩
theorem Zxx:ZsI.S.Ok Tryz.prog 141:=ZsI.ok Tryz.func141 (by kernel_rfl) trivial
noncomputable def Zyj (x0:LL) (x1 x2:Int):Option (Int):=ZsI.S.g [.l x0,.i x1,.i x2]
noncomputable def ZcQ (k:Nat) (x0:LL) (x1 x2 x3:Int):Option (Int):=ZsI.lp [0] 0 r0 k [.l x0,.i x1,.i x2,.i x3]
theorem Zgu (k:Nat) (x0:LL) (x1 x2 x3:Int):ZcQ (k+1) x0 x1 x2 x3 =
 (if (cop .lss x3 (List.length x0:Int))=true then
 Zi x0 x3 hs7 fun (r4:Qt12)=>
 if (cop .eql r4.1 x1)=true then
 Zi x0 x3 hs7 fun (r17:Qt12)=>
 if (cop .eql r17.2.1 x2)=true then
 some (x3)
 else
 ZcQ k x0 x1 x2 (iop .add .i64 x3 1)
 else
 ZcQ k x0 x1 x2 (iop .add .i64 x3 1)
 else
 some ((-1))):=by kernel_rfl
theorem Zq5 (x0:LL) (x1 x2:Int):Zyj x0 x1 x2 =
 (ZcQ Zx x0 x1 x2 0):=by kernel_rfl
noncomputable def Zsx:Fn:=⟨32,[2],[(3,[(0,.c (.slice 13)),(3,.c (.own false 88)),(4,.c (.int .i64))])],[],0,[],[],Tryz.f142,[.c (.slice 13)],[.c (.own false 88)],[(30,F30.S)]⟩
theorem Zxv:Zsx.S.Ok Tryz.prog 142:=Zsx.ok Tryz.func142 (by kernel_rfl) ⟨ZsN,trivial⟩
noncomputable def Zpx (x0:LL):Option (LL):=Zsx.S.g [.l x0]
noncomputable def ZeZ (k:Nat) (x0 x1:LL) (x2:Int):Option (LL):=Zsx.lp [0] 0 r0 k [.l x0,.l x1,.i x2]
theorem Zgj (k:Nat) (x0 x1:LL) (x2:Int):ZeZ (k+1) x0 x1 x2 =
 (if (cop .lss x2 (List.length x0:Int))=true then
 Zi x0 x2 hs7 fun (r3:Qt12)=>
 Zi x0 x2 hs7 fun (r16:Qt12)=>
 Zi x0 x2 hs7 fun (r29:Qt12)=>
 (g30 r29.2.2.1 r29.2.2.2.1 r29.2.2.2.2.1 r29.2.2.2.2.2.1 r29.2.2.2.2.2.2.1 r29.2.2.2.2.2.2.2.1 r29.2.2.2.2.2.2.2.2.1 r29.2.2.2.2.2.2.2.2.2.1 r29.2.2.2.2.2.2.2.2.2.2.1 r29.2.2.2.2.2.2.2.2.2.2.2.1 (d4 (d8 r29))).bind fun (r42:Qt17)=>
 Zw (Ja x1 (E0++[[AV.val (.int .i64 r3.1),AV.val (.int .i64 r16.2.1),AV.val (.int .i64 r42.1),AV.val (.int .i64 r42.2.1),AV.val (.int .i64 r42.2.2.1),AV.slice false 3 r42.2.2.2.1,AV.val (.int .i64 r42.2.2.2.2.1),AV.val (.int .i64 r42.2.2.2.2.2.1),AV.val (.int .i64 r42.2.2.2.2.2.2.1),AV.val (.int .i64 r42.2.2.2.2.2.2.2.1),AV.val (.int .i64 r42.2.2.2.2.2.2.2.2.1),AV.val (.int .i64 r42.2.2.2.2.2.2.2.2.2.1),AV.val (.bool r42.2.2.2.2.2.2.2.2.2.2)]]) 120)<|
 ZeZ k x0 (x1++(E0++[[AV.val (.int .i64 r3.1),AV.val (.int .i64 r16.2.1),AV.val (.int .i64 r42.1),AV.val (.int .i64 r42.2.1),AV.val (.int .i64 r42.2.2.1),AV.slice false 3 r42.2.2.2.1,AV.val (.int .i64 r42.2.2.2.2.1),AV.val (.int .i64 r42.2.2.2.2.2.1),AV.val (.int .i64 r42.2.2.2.2.2.2.1),AV.val (.int .i64 r42.2.2.2.2.2.2.2.1),AV.val (.int .i64 r42.2.2.2.2.2.2.2.2.1),AV.val (.int .i64 r42.2.2.2.2.2.2.2.2.2.1),AV.val (.bool r42.2.2.2.2.2.2.2.2.2.2)]])) (iop .add .i64 x2 1)
 else
 some (x1)):=by kernel_rfl
theorem ZqY (x0:LL):Zpx x0 =
 (ZeZ Zx x0 E0 0):=by kernel_rfl
noncomputable def F83:Fn:=⟨62,[4,5],[(4,[(0,.c (.slice 13)),(3,.box hs7),(6,.c (.int .i64))])],[],0,[],[],Tryz.f83,[.c (.slice 13),.agg hs7],[.c (.own false 88),.c (.bool)],[(79,F79.S),(141,ZsI.S),(29,F29.S),(142,Zsx.S),(30,F30.S)]⟩
theorem ZzA:F83.S.Ok Tryz.prog 83:=F83.ok Tryz.func83 (by kernel_rfl) ⟨Zyx,⟨Zxx,⟨ZyU,⟨Zxv,⟨ZsN,trivial⟩⟩⟩⟩⟩
noncomputable def g83 (x0:LL) (x1 x2 x3 x4 x5:Int) (x6:LL) (x7 x8 x9 x10 x11 x12:Int) (x13:Bool):Option (LL×Bool):=F83.S.g [.l x0,.i x1,.i x2,.i x3,.i x4,.i x5,.l x6,.i x7,.i x8,.i x9,.i x10,.i x11,.i x12,.b x13]
noncomputable def ZkL (k:Nat) (x0:LL) (x1 x2 x3 x4 x5:Int) (x6:LL) (x7 x8 x9 x10 x11 x12:Int) (x13:Bool) (x14:Int):Option (LL×Bool):=F83.lp [0,1,0,1,0] 0 r0 k [.l x0,.i x1,.i x2,.i x3,.i x4,.i x5,.l x6,.i x7,.i x8,.i x9,.i x10,.i x11,.i x12,.b x13,.i x14]
theorem Zjh (k:Nat) (x0:LL) (x1 x2 x3 x4 x5:Int) (x6:LL) (x7 x8 x9 x10 x11 x12:Int) (x13:Bool) (x14:Int):ZkL (k+1) x0 x1 x2 x3 x4 x5 x6 x7 x8 x9 x10 x11 x12 x13 x14 =
 (if (cop .lss x14 (List.length x0:Int))=true then
 Zi x0 x14 hs7 fun (r15:Qt12)=>
 (g29 x3 x4 x5 r15.2.2.1 r15.2.2.2.1 r15.2.2.2.2.1).bind fun (r28:Bool)=>
 if (!r28)=true then
 ZkL k x0 x1 x2 x3 x4 x5 x6 x7 x8 x9 x10 x11 x12 x13 (iop .add .i64 x14 1)
 else
 Zw ((0:Int)≤x14)<|
 Zw ((x14:Int)≤(List.length x0:Int))<|
 (Zpx (List.take (Int.toNat x14) x0)).bind fun (r29:LL)=>
 (g30 x3 x4 x5 x6 x7 x8 x9 x10 x11 x12 x13).bind fun (r30:Qt17)=>
 Zw (Ja r29 (E0++[[AV.val (.int .i64 x1),AV.val (.int .i64 x2),AV.val (.int .i64 r30.1),AV.val (.int .i64 r30.2.1),AV.val (.int .i64 r30.2.2.1),AV.slice false 3 r30.2.2.2.1,AV.val (.int .i64 r30.2.2.2.2.1),AV.val (.int .i64 r30.2.2.2.2.2.1),AV.val (.int .i64 r30.2.2.2.2.2.2.1),AV.val (.int .i64 r30.2.2.2.2.2.2.2.1),AV.val (.int .i64 r30.2.2.2.2.2.2.2.2.1),AV.val (.int .i64 r30.2.2.2.2.2.2.2.2.2.1),AV.val (.bool r30.2.2.2.2.2.2.2.2.2.2)]]) 120)<|
 Zw ((0:Int)≤x14)<|
 Zw ((x14:Int)≤(List.length x0:Int))<|
 (Zpx (List.drop (Int.toNat x14) x0)).bind fun (r41:LL)=>
 Zw (Ja (r29++(E0++[[AV.val (.int .i64 x1),AV.val (.int .i64 x2),AV.val (.int .i64 r30.1),AV.val (.int .i64 r30.2.1),AV.val (.int .i64 r30.2.2.1),AV.slice false 3 r30.2.2.2.1,AV.val (.int .i64 r30.2.2.2.2.1),AV.val (.int .i64 r30.2.2.2.2.2.1),AV.val (.int .i64 r30.2.2.2.2.2.2.1),AV.val (.int .i64 r30.2.2.2.2.2.2.2.1),AV.val (.int .i64 r30.2.2.2.2.2.2.2.2.1),AV.val (.int .i64 r30.2.2.2.2.2.2.2.2.2.1),AV.val (.bool r30.2.2.2.2.2.2.2.2.2.2)]])) r41 120)<|
 some (((r29++(E0++[[AV.val (.int .i64 x1),AV.val (.int .i64 x2),AV.val (.int .i64 r30.1),AV.val (.int .i64 r30.2.1),AV.val (.int .i64 r30.2.2.1),AV.slice false 3 r30.2.2.2.1,AV.val (.int .i64 r30.2.2.2.2.1),AV.val (.int .i64 r30.2.2.2.2.2.1),AV.val (.int .i64 r30.2.2.2.2.2.2.1),AV.val (.int .i64 r30.2.2.2.2.2.2.2.1),AV.val (.int .i64 r30.2.2.2.2.2.2.2.2.1),AV.val (.int .i64 r30.2.2.2.2.2.2.2.2.2.1),AV.val (.bool r30.2.2.2.2.2.2.2.2.2.2)]]))++r41),true)
 else
 Zw ((0:Int)≤x14)<|
 Zw ((x14:Int)≤(List.length x0:Int))<|
 (Zpx (List.take (Int.toNat x14) x0)).bind fun (r15:LL)=>
 (g30 x3 x4 x5 x6 x7 x8 x9 x10 x11 x12 x13).bind fun (r16:Qt17)=>
 Zw (Ja r15 (E0++[[AV.val (.int .i64 x1),AV.val (.int .i64 x2),AV.val (.int .i64 r16.1),AV.val (.int .i64 r16.2.1),AV.val (.int .i64 r16.2.2.1),AV.slice false 3 r16.2.2.2.1,AV.val (.int .i64 r16.2.2.2.2.1),AV.val (.int .i64 r16.2.2.2.2.2.1),AV.val (.int .i64 r16.2.2.2.2.2.2.1),AV.val (.int .i64 r16.2.2.2.2.2.2.2.1),AV.val (.int .i64 r16.2.2.2.2.2.2.2.2.1),AV.val (.int .i64 r16.2.2.2.2.2.2.2.2.2.1),AV.val (.bool r16.2.2.2.2.2.2.2.2.2.2)]]) 120)<|
 Zw ((0:Int)≤x14)<|
 Zw ((x14:Int)≤(List.length x0:Int))<|
 (Zpx (List.drop (Int.toNat x14) x0)).bind fun (r27:LL)=>
 Zw (Ja (r15++(E0++[[AV.val (.int .i64 x1),AV.val (.int .i64 x2),AV.val (.int .i64 r16.1),AV.val (.int .i64 r16.2.1),AV.val (.int .i64 r16.2.2.1),AV.slice false 3 r16.2.2.2.1,AV.val (.int .i64 r16.2.2.2.2.1),AV.val (.int .i64 r16.2.2.2.2.2.1),AV.val (.int .i64 r16.2.2.2.2.2.2.1),AV.val (.int .i64 r16.2.2.2.2.2.2.2.1),AV.val (.int .i64 r16.2.2.2.2.2.2.2.2.1),AV.val (.int .i64 r16.2.2.2.2.2.2.2.2.2.1),AV.val (.bool r16.2.2.2.2.2.2.2.2.2.2)]])) r27 120)<|
 some (((r15++(E0++[[AV.val (.int .i64 x1),AV.val (.int .i64 x2),AV.val (.int .i64 r16.1),AV.val (.int .i64 r16.2.1),AV.val (.int .i64 r16.2.2.1),AV.slice false 3 r16.2.2.2.1,AV.val (.int .i64 r16.2.2.2.2.1),AV.val (.int .i64 r16.2.2.2.2.2.1),AV.val (.int .i64 r16.2.2.2.2.2.2.1),AV.val (.int .i64 r16.2.2.2.2.2.2.2.1),AV.val (.int .i64 r16.2.2.2.2.2.2.2.2.1),AV.val (.int .i64 r16.2.2.2.2.2.2.2.2.2.1),AV.val (.bool r16.2.2.2.2.2.2.2.2.2.2)]]))++r27),true)):=by kernel_rfl
theorem ZuA (x0:LL) (x1 x2 x3 x4 x5:Int) (x6:LL) (x7 x8 x9 x10 x11 x12:Int) (x13:Bool):g83 x0 x1 x2 x3 x4 x5 x6 x7 x8 x9 x10 x11 x12 x13 =
 ((g79 x0 x3 x4 x5).bind fun (r14:Int)=>
 if (cop .geq r14 0)=true then
 some (E0,false)
 else
 (Zyj x0 x1 x2).bind fun (r15:Int)=>
 if (cop .geq r15 0)=true then
 some (E0,false)
 else
 ZkL Zx x0 x1 x2 x3 x4 x5 x6 x7 x8 x9 x10 x11 x12 x13 0):=by kernel_rfl
noncomputable def F49:Fn:=⟨24,[8],[],[],0,[],[],Tryz.f49,[.c (.slice 13),.c (.int .i64),.c (.int .i64),.agg hs8],[.c (.slice 13)],[(83,F83.S)]⟩
theorem Zz3:F49.S.Ok Tryz.prog 49:=F49.ok Tryz.func49 (by kernel_rfl) ⟨ZzA,trivial⟩
noncomputable def g49 (x0:LL) (x1 x2 x3 x4 x5:Int) (x6:LL) (x7 x8 x9 x10 x11 x12:Int) (x13:Bool):Option (LL):=F49.S.g [.l x0,.i x1,.i x2,.i x3,.i x4,.i x5,.l x6,.i x7,.i x8,.i x9,.i x10,.i x11,.i x12,.b x13]
theorem Ztf (x0:LL) (x1 x2 x3 x4 x5:Int) (x6:LL) (x7 x8 x9 x10 x11 x12:Int) (x13:Bool):g49 x0 x1 x2 x3 x4 x5 x6 x7 x8 x9 x10 x11 x12 x13 =
 ((g83 x0 x1 x2 x3 x4 x5 x6 x7 x8 x9 x10 x11 x12 x13).bind fun (r14:LL×Bool)=>
 if (!r14.2)=true then
 some (x0)
 else
 some (r14.1)):=by kernel_rfl
noncomputable def F50:Fn:=⟨11,[4],[],[],0,[],[],Tryz.f50,[.agg hs13,.c (.int .i64)],[.agg hs13],[]⟩
theorem ZzS:F50.S.Ok Tryz.prog 50:=F50.ok Tryz.func50 (by kernel_rfl) trivial
noncomputable def g50 (x0 x1 x2 x3 x4 x5:Int) (x6:Bool) (x7:Int):Option (Qt18):=F50.S.g [.i x0,.i x1,.i x2,.i x3,.i x4,.i x5,.b x6,.i x7]
theorem ZsX (x0 x1 x2 x3 x4 x5:Int) (x6:Bool) (x7:Int):g50 x0 x1 x2 x3 x4 x5 x6 x7 =
 (some (x0,x1,x2,(iop .and .i64 x3 x7),x4,x5,x6)):=by kernel_rfl
noncomputable def F51:Fn:=⟨136,[14,15],[(16,[(1,.c (.int .i64)),(2,.c (.int .i64)),(3,.c (.int .i64)),(4,.c (.int .i64)),(5,.c (.int .i64)),(6,.c (.int .i64)),(7,.box hs13),(16,.c (.bool)),(17,.c (.int .i64)),(19,.c (.own false 42)),(20,.c (.int .i64))])],[],0,[],[],Tryz.f51,[.agg hs13,.c (.int .i64),.c (.int .i64),.c (.int .i64),.c (.int .i64),.c (.int .i64),.c (.int .i64)],[.c (.slice 7),.c (.int .i64)],[(84,F84.S),(85,F85.S),(86,F86.S)]⟩
theorem ZAs:F51.S.Ok Tryz.prog 51:=F51.ok Tryz.func51 (by kernel_rfl) ⟨ZxN,⟨Zy1,⟨ZyV,trivial⟩⟩⟩
noncomputable def g51 (x0 x1 x2 x3 x4 x5:Int) (x6:Bool) (x7 x8 x9 x10 x11 x12:Int):Option (LL×Int):=F51.S.g [.i x0,.i x1,.i x2,.i x3,.i x4,.i x5,.b x6,.i x7,.i x8,.i x9,.i x10,.i x11,.i x12]
noncomputable def VI (k:Nat) (x0 x1 x2 x3 x4 x5 x6 x7 x8 x9 x10 x11:Int) (x12 x13:Bool) (x14:Int) (x15:LL) (x16:Int):Option (LL×Int):=F51.lp [0,1,1,1,0,1,0,0,1,1,1,1,0,0,1,3,1,1,1,0,1,0] 0 r0 k [.i x0,.i x1,.i x2,.i x3,.i x4,.i x5,.i x6,.i x7,.i x8,.i x9,.i x10,.i x11,.b x12,.b x13,.i x14,.l x15,.i x16]
theorem Zi4 (k:Nat) (x0 x1 x2 x3 x4 x5 x6 x7 x8 x9 x10 x11:Int) (x12 x13:Bool) (x14:Int) (x15:LL) (x16:Int):VI (k+1) x0 x1 x2 x3 x4 x5 x6 x7 x8 x9 x10 x11 x12 x13 x14 x15 x16 =
 (if (cop .lss x16 x5)=true then
 if x13=true then
 Zw (Ja x15 (E0++[[AV.val (.int .i64 x0),AV.val (.int .i64 (iop .add .i64 (iop .add .i64 x7 x4) (iop .mul .i64 x16 x14))),AV.val (.int .i64 x1),AV.val (.int .i64 x9),AV.val (.int .i64 x3),AV.val (.int .i64 x2),AV.val (.bool x12)]]) 56)<|
 VI k x0 x1 x2 x3 x4 x5 x6 x7 x8 x9 x10 x11 x12 x13 x14 (x15++(E0++[[AV.val (.int .i64 x0),AV.val (.int .i64 (iop .add .i64 (iop .add .i64 x7 x4) (iop .mul .i64 x16 x14))),AV.val (.int .i64 x1),AV.val (.int .i64 x9),AV.val (.int .i64 x3),AV.val (.int .i64 x2),AV.val (.bool x12)]])) (iop .add .i64 x16 1)
 else
 Zw (Ja x15 (E0++[[AV.val (.int .i64 x0),AV.val (.int .i64 (iop .add .i64 (iop .add .i64 x7 x4) (iop .mul .i64 x16 x14))),AV.val (.int .i64 x1),AV.val (.int .i64 x9),AV.val (.int .i64 0),AV.val (.int .i64 0),AV.val (.bool x12)]]) 56)<|
 VI k x0 x1 x2 x3 x4 x5 x6 x7 x8 x9 x10 x11 x12 x13 x14 (x15++(E0++[[AV.val (.int .i64 x0),AV.val (.int .i64 (iop .add .i64 (iop .add .i64 x7 x4) (iop .mul .i64 x16 x14))),AV.val (.int .i64 x1),AV.val (.int .i64 x9),AV.val (.int .i64 0),AV.val (.int .i64 0),AV.val (.bool x12)]])) (iop .add .i64 x16 1)
 else
 some (x15,0)):=by kernel_rfl
theorem Ztn (x0 x1 x2 x3 x4 x5:Int) (x6:Bool) (x7 x8 x9 x10 x11 x12:Int):g51 x0 x1 x2 x3 x4 x5 x6 x7 x8 x9 x10 x11 x12 =
 ((g84 x0 x1 x2 x3 x4 x5 x6).bind fun (r13:Bool)=>
 if (!r13)=true then
 some (E0,5)
 else
 if (cop .neq x0 1)=true then
 some (E0,5)
 else
 if (cop .eql (iop .and .i64 x3 2) 0)=true then
 some (E0,8)
 else
 (g85 x7 x8).bind fun (r14:Bool)=>
 if (!r14)=true then
 some (E0,1)
 else
 if (cop .eql x7 3)=true then
 (g86 x10 x9).bind fun (r15:Bool)=>
 if (!r15)=true then
 some (E0,1)
 else
 if (cop .lss x12 1)=true then
 some (E0,1)
 else
 if (cop .gtr x12 8)=true then
 some (E0,1)
 else
 if (cop .lss x11 0)=true then
 some (E0,1)
 else
 if x6=true then
 if (cop .neq x7 1)=true then
 if (cop .neq x7 2)=true then
 some (E0,5)
 else
 Zw ((0:Int)≤(IntKind.wrap .u64 x8))<|
 Zw ((0:Int)≤(IntKind.wrap .u64 x2))<|
 Zw (((iop .shl .i64 1 (IntKind.wrap .u64 x8)):Int)≠0)<|
 if (cop .neq (iop .rem .i64 x11 (iop .shl .i64 1 (IntKind.wrap .u64 x8))) 0)=true then
 some (E0,6)
 else
 if (cop .gtr x11 (iop .shl .i64 1 (IntKind.wrap .u64 x2)))=true then
 some (E0,6)
 else
 if (cop .gtr (iop .mul .i64 x12 (iop .shl .i64 1 (IntKind.wrap .u64 x8))) (iop .sub .i64 (iop .shl .i64 1 (IntKind.wrap .u64 x2)) x11))=true then
 some (E0,6)
 else
 if (cop .eql x7 1)=true then
 if (cop .geq x8 x2)=true then
 some (E0,6)
 else
 VI Zx x7 x8 x9 x10 x11 x12 x0 x1 x2 x3 x4 x5 x6 (cop .eql x7 3) (iop .shl .i64 1 (IntKind.wrap .u64 x8)) E0 0
 else
 VI Zx x7 x8 x9 x10 x11 x12 x0 x1 x2 x3 x4 x5 x6 (cop .eql x7 3) (iop .shl .i64 1 (IntKind.wrap .u64 x8)) E0 0
 else
 Zw ((0:Int)≤(IntKind.wrap .u64 x8))<|
 Zw ((0:Int)≤(IntKind.wrap .u64 x2))<|
 Zw (((iop .shl .i64 1 (IntKind.wrap .u64 x8)):Int)≠0)<|
 if (cop .neq (iop .rem .i64 x11 (iop .shl .i64 1 (IntKind.wrap .u64 x8))) 0)=true then
 some (E0,6)
 else
 if (cop .gtr x11 (iop .shl .i64 1 (IntKind.wrap .u64 x2)))=true then
 some (E0,6)
 else
 if (cop .gtr (iop .mul .i64 x12 (iop .shl .i64 1 (IntKind.wrap .u64 x8))) (iop .sub .i64 (iop .shl .i64 1 (IntKind.wrap .u64 x2)) x11))=true then
 some (E0,6)
 else
 if (cop .eql x7 1)=true then
 if (cop .geq x8 x2)=true then
 some (E0,6)
 else
 VI Zx x7 x8 x9 x10 x11 x12 x0 x1 x2 x3 x4 x5 x6 (cop .eql x7 3) (iop .shl .i64 1 (IntKind.wrap .u64 x8)) E0 0
 else
 VI Zx x7 x8 x9 x10 x11 x12 x0 x1 x2 x3 x4 x5 x6 (cop .eql x7 3) (iop .shl .i64 1 (IntKind.wrap .u64 x8)) E0 0
 else
 Zw ((0:Int)≤(IntKind.wrap .u64 x8))<|
 Zw ((0:Int)≤(IntKind.wrap .u64 x2))<|
 Zw (((iop .shl .i64 1 (IntKind.wrap .u64 x8)):Int)≠0)<|
 if (cop .neq (iop .rem .i64 x11 (iop .shl .i64 1 (IntKind.wrap .u64 x8))) 0)=true then
 some (E0,6)
 else
 if (cop .gtr x11 (iop .shl .i64 1 (IntKind.wrap .u64 x2)))=true then
 some (E0,6)
 else
 if (cop .gtr (iop .mul .i64 x12 (iop .shl .i64 1 (IntKind.wrap .u64 x8))) (iop .sub .i64 (iop .shl .i64 1 (IntKind.wrap .u64 x2)) x11))=true then
 some (E0,6)
 else
 if (cop .eql x7 1)=true then
 if (cop .geq x8 x2)=true then
 some (E0,6)
 else
 VI Zx x7 x8 x9 x10 x11 x12 x0 x1 x2 x3 x4 x5 x6 (cop .eql x7 3) (iop .shl .i64 1 (IntKind.wrap .u64 x8)) E0 0
 else
 VI Zx x7 x8 x9 x10 x11 x12 x0 x1 x2 x3 x4 x5 x6 (cop .eql x7 3) (iop .shl .i64 1 (IntKind.wrap .u64 x8)) E0 0
 else
 if (cop .lss x12 1)=true then
 some (E0,1)
 else
 if (cop .gtr x12 8)=true then
 some (E0,1)
 else
 if (cop .lss x11 0)=true then
 some (E0,1)
 else
 if x6=true then
 if (cop .neq x7 1)=true then
 if (cop .neq x7 2)=true then
 some (E0,5)
 else
 Zw ((0:Int)≤(IntKind.wrap .u64 x8))<|
 Zw ((0:Int)≤(IntKind.wrap .u64 x2))<|
 Zw (((iop .shl .i64 1 (IntKind.wrap .u64 x8)):Int)≠0)<|
 if (cop .neq (iop .rem .i64 x11 (iop .shl .i64 1 (IntKind.wrap .u64 x8))) 0)=true then
 some (E0,6)
 else
 if (cop .gtr x11 (iop .shl .i64 1 (IntKind.wrap .u64 x2)))=true then
 some (E0,6)
 else
 if (cop .gtr (iop .mul .i64 x12 (iop .shl .i64 1 (IntKind.wrap .u64 x8))) (iop .sub .i64 (iop .shl .i64 1 (IntKind.wrap .u64 x2)) x11))=true then
 some (E0,6)
 else
 if (cop .eql x7 1)=true then
 if (cop .geq x8 x2)=true then
 some (E0,6)
 else
 VI Zx x7 x8 x9 x10 x11 x12 x0 x1 x2 x3 x4 x5 x6 (cop .eql x7 3) (iop .shl .i64 1 (IntKind.wrap .u64 x8)) E0 0
 else
 VI Zx x7 x8 x9 x10 x11 x12 x0 x1 x2 x3 x4 x5 x6 (cop .eql x7 3) (iop .shl .i64 1 (IntKind.wrap .u64 x8)) E0 0
 else
 Zw ((0:Int)≤(IntKind.wrap .u64 x8))<|
 Zw ((0:Int)≤(IntKind.wrap .u64 x2))<|
 Zw (((iop .shl .i64 1 (IntKind.wrap .u64 x8)):Int)≠0)<|
 if (cop .neq (iop .rem .i64 x11 (iop .shl .i64 1 (IntKind.wrap .u64 x8))) 0)=true then
 some (E0,6)
 else
 if (cop .gtr x11 (iop .shl .i64 1 (IntKind.wrap .u64 x2)))=true then
 some (E0,6)
 else
 if (cop .gtr (iop .mul .i64 x12 (iop .shl .i64 1 (IntKind.wrap .u64 x8))) (iop .sub .i64 (iop .shl .i64 1 (IntKind.wrap .u64 x2)) x11))=true then
 some (E0,6)
 else
 if (cop .eql x7 1)=true then
 if (cop .geq x8 x2)=true then
 some (E0,6)
 else
 VI Zx x7 x8 x9 x10 x11 x12 x0 x1 x2 x3 x4 x5 x6 (cop .eql x7 3) (iop .shl .i64 1 (IntKind.wrap .u64 x8)) E0 0
 else
 VI Zx x7 x8 x9 x10 x11 x12 x0 x1 x2 x3 x4 x5 x6 (cop .eql x7 3) (iop .shl .i64 1 (IntKind.wrap .u64 x8)) E0 0
 else
 Zw ((0:Int)≤(IntKind.wrap .u64 x8))<|
 Zw ((0:Int)≤(IntKind.wrap .u64 x2))<|
 Zw (((iop .shl .i64 1 (IntKind.wrap .u64 x8)):Int)≠0)<|
 if (cop .neq (iop .rem .i64 x11 (iop .shl .i64 1 (IntKind.wrap .u64 x8))) 0)=true then
 some (E0,6)
 else
 if (cop .gtr x11 (iop .shl .i64 1 (IntKind.wrap .u64 x2)))=true then
 some (E0,6)
 else
 if (cop .gtr (iop .mul .i64 x12 (iop .shl .i64 1 (IntKind.wrap .u64 x8))) (iop .sub .i64 (iop .shl .i64 1 (IntKind.wrap .u64 x2)) x11))=true then
 some (E0,6)
 else
 if (cop .eql x7 1)=true then
 if (cop .geq x8 x2)=true then
 some (E0,6)
 else
 VI Zx x7 x8 x9 x10 x11 x12 x0 x1 x2 x3 x4 x5 x6 (cop .eql x7 3) (iop .shl .i64 1 (IntKind.wrap .u64 x8)) E0 0
 else
 VI Zx x7 x8 x9 x10 x11 x12 x0 x1 x2 x3 x4 x5 x6 (cop .eql x7 3) (iop .shl .i64 1 (IntKind.wrap .u64 x8)) E0 0):=by kernel_rfl
noncomputable def F52:Fn:=⟨49,[6,7],[],[],0,[],[],Tryz.f52,[.agg hs8,.agg [.int .i64,.int .i64,.int .i64],.agg hs13],[.agg hs8,.c (.int .i64)],[(87,F87.S),(88,F88.S),(84,F84.S),(18,F18.S),(53,F53.S)]⟩
theorem Zy3:F52.S.Ok Tryz.prog 52:=F52.ok Tryz.func52 (by kernel_rfl) ⟨ZzU,⟨ZyD,⟨ZxN,⟨ZyM,⟨ZyS,trivial⟩⟩⟩⟩⟩
noncomputable def g52 (x0 x1 x2:Int) (x3:LL) (x4 x5 x6 x7 x8 x9:Int) (x10:Bool) (x11 x12 x13 x14 x15 x16 x17 x18 x19:Int) (x20:Bool):Option (Qt14):=F52.S.g [.i x0,.i x1,.i x2,.l x3,.i x4,.i x5,.i x6,.i x7,.i x8,.i x9,.b x10,.i x11,.i x12,.i x13,.i x14,.i x15,.i x16,.i x17,.i x18,.i x19,.b x20]
theorem Zuq (x0 x1 x2:Int) (x3:LL) (x4 x5 x6 x7 x8 x9:Int) (x10:Bool) (x11 x12 x13 x14 x15 x16 x17 x18 x19:Int) (x20:Bool):g52 x0 x1 x2 x3 x4 x5 x6 x7 x8 x9 x10 x11 x12 x13 x14 x15 x16 x17 x18 x19 x20 =
 ((g87 x0 x1 x2 x3 x4 x5 x6 x7 x8 x9 x10).bind fun (r21:Bool)=>
 if (!r21)=true then
 some (0,0,0,E0,0,0,0,0,0,0,false,1)
 else
 (g88 x11 x12 x13).bind fun (r22:Bool)=>
 if (!r22)=true then
 some (0,0,0,E0,0,0,0,0,0,0,false,1)
 else
 (g84 x14 x15 x16 x17 x18 x19 x20).bind fun (r23:Bool)=>
 if (!r23)=true then
 some (0,0,0,E0,0,0,0,0,0,0,false,1)
 else
 if ((cop .eql x11 x0)&&((cop .eql x12 x1)&&((cop .eql x13 x2)&&true)))=true then
 some (0,0,0,E0,0,0,0,0,0,0,false,1)
 else
 (g18 x3 x11 x12 x13).bind fun (r24:Bool)=>
 if r24=true then
 some (0,0,0,E0,0,0,0,0,0,0,false,1)
 else
 if (cop .eql (List.length x3:Int) 8)=true then
 some (0,0,0,E0,0,0,0,0,0,0,false,9)
 else
 (g53 x3).bind fun (r25:LL)=>
 Zw (Ja r25 (E0++[[AV.val (.int .i64 x0),AV.val (.int .i64 x1),AV.val (.int .i64 x2)]]) 24)<|
 some (x11,x12,x13,(r25++(E0++[[AV.val (.int .i64 x0),AV.val (.int .i64 x1),AV.val (.int .i64 x2)]])),x14,x15,x16,x17,x18,x19,x20,0)):=by kernel_rfl
noncomputable def F24:Fn:=⟨146,[6],[(18,[(0,.c (.slice 13)),(2,.c (.int .i64)),(7,.c (.int .i64)),(8,.c (.int .i64)),(10,.box hs8),(11,.c (.slice 7)),(16,.c (.int .i64))])],[],0,[],[],Tryz.f24,[.c (.slice 13),.agg hs9,.c (.int .i64)],[.c (.slice 13)],[(9,F9.S),(47,F47.S),(48,F48.S),(49,F49.S),(50,F50.S),(51,F51.S),(52,F52.S)]⟩
theorem ZzW:F24.S.Ok Tryz.prog 24:=F24.ok Tryz.func24 (by kernel_rfl) ⟨ok9,⟨Zzn,⟨ZzI,⟨Zz3,⟨ZzS,⟨ZAs,⟨Zy3,trivial⟩⟩⟩⟩⟩⟩⟩
noncomputable def g24 (x0:LL) (x1:Bool) (x2 x3 x4 x5 x6 x7 x8 x9:Int) (x10:Bool) (x11:Int):Option (LL):=F24.S.g [.l x0,.b x1,.i x2,.i x3,.i x4,.i x5,.i x6,.i x7,.i x8,.i x9,.b x10,.i x11]
noncomputable def Zgt (k:Nat) (x0:LL) (x1 x2 x3 x4 x5 x6:Int) (x7:LL) (x8 x9 x10 x11 x12 x13:Int) (x14:Bool) (x15:LL) (x16:Int):Option (LL):=F24.lp [2,1,1,5,8,1,0,1,0] 0 r0 k [.l x0,.i x1,.i x2,.i x3,.i x4,.i x5,.i x6,.l x7,.i x8,.i x9,.i x10,.i x11,.i x12,.i x13,.b x14,.l x15,.i x16]
theorem Zjy (k:Nat) (x0:LL) (x1 x2 x3 x4 x5 x6:Int) (x7:LL) (x8 x9 x10 x11 x12 x13:Int) (x14:Bool) (x15:LL) (x16:Int):Zgt (k+1) x0 x1 x2 x3 x4 x5 x6 x7 x8 x9 x10 x11 x12 x13 x14 x15 x16 =
 (if (cop .lss x16 (List.length x15:Int))=true then
 Zi x15 x16 hs13 fun (r17:Qt18)=>
 (g52 x4 x5 x6 x7 x8 x9 x10 x11 x12 x13 x14 x2 x1 x16 r17.1 r17.2.1 r17.2.2.1 r17.2.2.2.1 r17.2.2.2.2.1 r17.2.2.2.2.2.1 r17.2.2.2.2.2.2).bind fun (r24:Qt14)=>
 if (cop .neq r24.2.2.2.2.2.2.2.2.2.2.2 0)=true then
 some (x0)
 else
 (g49 x0 x2 (iop .add .i64 x3 x16) r24.1 r24.2.1 r24.2.2.1 r24.2.2.2.1 r24.2.2.2.2.1 r24.2.2.2.2.2.1 r24.2.2.2.2.2.2.1 r24.2.2.2.2.2.2.2.1 r24.2.2.2.2.2.2.2.2.1 r24.2.2.2.2.2.2.2.2.2.1 r24.2.2.2.2.2.2.2.2.2.2.1).bind fun (r36:LL)=>
 Zgt k r36 x1 x2 x3 x4 x5 x6 x7 x8 x9 x10 x11 x12 x13 x14 x15 (iop .add .i64 x16 1)
 else
 some (x0)):=by kernel_rfl
theorem ZtP (x0:LL) (x1:Bool) (x2 x3 x4 x5 x6 x7 x8 x9:Int) (x10:Bool) (x11:Int):g24 x0 x1 x2 x3 x4 x5 x6 x7 x8 x9 x10 x11 =
 ((g9 x3 4).bind fun (r12:Int)=>
 (g9 x4 8).bind fun (r13:Int)=>
 if x1=true then
 (g47 x6 x7).bind fun (r14:Qt18)=>
 (g48 x0 0 0 0 (E0++[[AV.val (.int .i64 r14.1),AV.val (.int .i64 r14.2.1),AV.val (.int .i64 r14.2.2.1),AV.val (.int .i64 r14.2.2.2.1),AV.val (.int .i64 r14.2.2.2.2.1),AV.val (.int .i64 r14.2.2.2.2.2.1),AV.val (.bool r14.2.2.2.2.2.2)]])).bind fun (r21:Bool)=>
 if r21=true then
 some (x0)
 else
 (g49 x0 r12 r13 r12 x11 0 E0 r14.1 r14.2.1 r14.2.2.1 r14.2.2.2.1 r14.2.2.2.2.1 r14.2.2.2.2.2.1 r14.2.2.2.2.2.2).bind fun (r22:LL)=>
 some (r22)
 else
 if (cop .eql (List.length x0:Int) 0)=true then
 (g47 x6 x7).bind fun (r14:Qt18)=>
 (g48 x0 0 0 0 (E0++[[AV.val (.int .i64 r14.1),AV.val (.int .i64 r14.2.1),AV.val (.int .i64 r14.2.2.1),AV.val (.int .i64 r14.2.2.2.1),AV.val (.int .i64 r14.2.2.2.2.1),AV.val (.int .i64 r14.2.2.2.2.2.1),AV.val (.bool r14.2.2.2.2.2.2)]])).bind fun (r21:Bool)=>
 if r21=true then
 some (x0)
 else
 (g49 x0 r12 r13 r12 x11 0 E0 r14.1 r14.2.1 r14.2.2.1 r14.2.2.2.1 r14.2.2.2.2.1 r14.2.2.2.2.2.1 r14.2.2.2.2.2.2).bind fun (r22:LL)=>
 some (r22)
 else
 (g9 x2 (List.length x0:Int)).bind fun (r14:Int)=>
 Zi x0 r14 hs7 fun (r15:Qt12)=>
 (g9 x9 8).bind fun (r28:Int)=>
 (g50 r15.2.2.2.2.2.2.1 r15.2.2.2.2.2.2.2.1 r15.2.2.2.2.2.2.2.2.1 r15.2.2.2.2.2.2.2.2.2.1 r15.2.2.2.2.2.2.2.2.2.2.1 r15.2.2.2.2.2.2.2.2.2.2.2.1 (d4 (d8 r15)) r28).bind fun (r29:Qt18)=>
 if (!x10)=true then
 (g9 x5 6).bind fun (r36:Int)=>
 (g9 x7 10).bind fun (r37:Int)=>
 Zi ((((((E0++[[AV.val (.int .i64 (iop .add .i64 6 r37))]])++[[AV.val (.int .i64 12)]])++[[AV.val (.int .i64 12)]])++[[AV.val (.int .i64 6)]])++[[AV.val (.int .i64 10)]])++[[AV.val (.int .i64 16)]]) (iop .sub .i64 (iop .add .i64 1 r36) 1) [.int .i64] fun (r38:Int)=>
 (g9 x9 2).bind fun (r39:Int)=>
 (g9 x6 8).bind fun (r40:Int)=>
 Zw ((0:Int)≤(IntKind.wrap .u64 r38))<|
 (g9 x8 3).bind fun (r41:Int)=>
 (g51 r15.2.2.2.2.2.2.1 r15.2.2.2.2.2.2.2.1 r15.2.2.2.2.2.2.2.2.1 r15.2.2.2.2.2.2.2.2.2.1 r15.2.2.2.2.2.2.2.2.2.2.1 r15.2.2.2.2.2.2.2.2.2.2.2.1 (d4 (d8 r15)) (iop .add .i64 1 r36) r38 r39 32 (iop .shl .i64 r40 (IntKind.wrap .u64 r38)) (iop .add .i64 1 r41)).bind fun (r42:LL×Int)=>
 if (cop .neq r42.2 0)=true then
 some (x0)
 else
 (g48 x0 r15.2.2.1 r15.2.2.2.1 r15.2.2.2.2.1 r42.1).bind fun (r44:Bool)=>
 if r44=true then
 some (x0)
 else
 Zgt Zx x0 x11 r12 r13 r15.2.2.1 r15.2.2.2.1 r15.2.2.2.2.1 r15.2.2.2.2.2.1 r15.2.2.2.2.2.2.1 r15.2.2.2.2.2.2.2.1 r15.2.2.2.2.2.2.2.2.1 r15.2.2.2.2.2.2.2.2.2.1 r15.2.2.2.2.2.2.2.2.2.2.1 r15.2.2.2.2.2.2.2.2.2.2.2.1 (d4 (d8 r15)) r42.1 0
 else
 Zgt Zx x0 x11 r12 r13 r15.2.2.1 r15.2.2.2.1 r15.2.2.2.2.1 r15.2.2.2.2.2.1 r15.2.2.2.2.2.2.1 r15.2.2.2.2.2.2.2.1 r15.2.2.2.2.2.2.2.2.1 r15.2.2.2.2.2.2.2.2.2.1 r15.2.2.2.2.2.2.2.2.2.2.1 r15.2.2.2.2.2.2.2.2.2.2.2.1 (d4 (d8 r15)) (E0++[[AV.val (.int .i64 r29.1),AV.val (.int .i64 r29.2.1),AV.val (.int .i64 r29.2.2.1),AV.val (.int .i64 r29.2.2.2.1),AV.val (.int .i64 r29.2.2.2.2.1),AV.val (.int .i64 r29.2.2.2.2.2.1),AV.val (.bool r29.2.2.2.2.2.2)]]) 0):=by kernel_rfl
noncomputable def F8:Fn:=⟨29,[2],[(3,[(0,.c (.slice 10)),(3,.c (.slice 13)),(4,.c (.int .i64))])],[],0,[],[],Tryz.f8,[.c (.slice 10)],[.c (.slice 13)],[(24,F24.S)]⟩
theorem ok8:F8.S.Ok Tryz.prog 8:=F8.ok Tryz.func8 (by kernel_rfl) ⟨ZzW,trivial⟩
noncomputable def g8 (x0:LL):Option (LL):=F8.S.g [.l x0]
noncomputable def Zvm (k:Nat) (x0 x1:LL) (x2:Int):Option (LL):=F8.lp [0] 0 r0 k [.l x0,.l x1,.i x2]
theorem Znq (k:Nat) (x0 x1:LL) (x2:Int):Zvm (k+1) x0 x1 x2 =
 (if (cop .lss x2 (List.length x0:Int))=true then
 if (cop .lss x2 40)=true then
 if (cop .lss (List.length x1:Int) 24)=true then
 Zi x0 x2 hs9 fun (r3:Bool×Int×Int×Int×Int×Int×Int×Int×Int×Bool)=>
 (g24 x1 r3.1 r3.2.1 r3.2.2.1 r3.2.2.2.1 r3.2.2.2.2.1 r3.2.2.2.2.2.1 r3.2.2.2.2.2.2.1 r3.2.2.2.2.2.2.2.1 r3.2.2.2.2.2.2.2.2.1 r3.2.2.2.2.2.2.2.2.2 (iop .add .i64 x2 1)).bind fun (r13:LL)=>
 Zvm k x0 r13 (iop .add .i64 x2 1)
 else
 some (x1)
 else
 some (x1)
 else
 some (x1)):=by kernel_rfl
theorem Zyb (x0:LL):g8 x0 =
 (Zvm Zx x0 E0 0):=by kernel_rfl
end Go.Proofs.YtljejgmcgddppaaGreat
