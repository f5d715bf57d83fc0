/- Functions of the program, as what they compute. -/
import Derived.Test.YtljejgmcgddppaaGreatF23c
namespace Go.Proofs.YtljejgmcgddppaaGreat
open Go Go.AM
set_option linter.unusedVariables false
set_option maxRecDepth 100000
noncomputable def F14:Fn:=⟨44,[4],[(3,[(0,.c (.slice 13)),(1,.c (.int .i64)),(5,.c (.own true 60)),(6,.c (.int .i64))])],[],0,[4],[],Tryz.f14,[.c (.slice 13),.c (.int .i64)],[.c (.own true 60)],[(30,F30.S)]⟩
theorem Zzm:F14.S.Ok Tryz.prog 14:=F14.ok Tryz.func14 (by kernel_rfl) ⟨ZsN,trivial⟩
noncomputable def g14 (x0:LL) (x1:Int):Option (LL):=F14.S.g [.l x0,.i x1]
noncomputable def Ze6 (k:Nat) (x0:LL) (x1:Int) (x2:LL) (x3:Int):Option (LL):=F14.lp [4] 0 r0 k [.l x0,.i x1,.l x2,.i x3]
theorem ZjZ (k:Nat) (x0:LL) (x1:Int) (x2:LL) (x3:Int):Ze6 (k+1) x0 x1 x2 x3 =
 (if (cop .lss x3 (List.length x0:Int))=true then
 Zi x0 x3 hs7 fun (r4:Qt12)=>
 if (cop .eql r4.1 x1)=true then
 Zi x0 x3 hs7 fun (r17:Qt12)=>
 if (cop .lss r17.2.1 12)=true then
 Zi x0 x3 hs7 fun (r30:Qt12)=>
 Zi x0 x3 hs7 fun (r43:Qt12)=>
 (g30 r43.2.2.1 r43.2.2.2.1 r43.2.2.2.2.1 r43.2.2.2.2.2.1 r43.2.2.2.2.2.2.1 r43.2.2.2.2.2.2.2.1 r43.2.2.2.2.2.2.2.2.1 r43.2.2.2.2.2.2.2.2.2.1 r43.2.2.2.2.2.2.2.2.2.2.1 r43.2.2.2.2.2.2.2.2.2.2.2.1 (d4 (d8 r43))).bind fun (r56:Qt17)=>
 Zw ((0:Int)≤r30.2.1)<|
 Zw ((r30.2.1:Int) < (List.length x2:Int))<|
 Zw ((0:Int)≤r30.2.1)<|
 Zw ((r30.2.1:Int) < (List.length x2:Int))<|
 Ze6 k x0 x1 (Zy x2 (Int.toNat r30.2.1) 0 [AV.val (.int .i64 r56.1),AV.val (.int .i64 r56.2.1),AV.val (.int .i64 r56.2.2.1),AV.slice false 3 r56.2.2.2.1,AV.val (.int .i64 r56.2.2.2.2.1),AV.val (.int .i64 r56.2.2.2.2.2.1),AV.val (.int .i64 r56.2.2.2.2.2.2.1),AV.val (.int .i64 r56.2.2.2.2.2.2.2.1),AV.val (.int .i64 r56.2.2.2.2.2.2.2.2.1),AV.val (.int .i64 r56.2.2.2.2.2.2.2.2.2.1),AV.val (.bool r56.2.2.2.2.2.2.2.2.2.2)]) (iop .add .i64 x3 1)
 else
 Ze6 k x0 x1 x2 (iop .add .i64 x3 1)
 else
 Ze6 k x0 x1 x2 (iop .add .i64 x3 1)
 else
 some (x2)):=by kernel_rfl
theorem ZtO (x0:LL) (x1:Int):g14 x0 x1 =
 (Zw (ZtI 12 136)<|
 Zw ((12:Int)≤12)<|
 Zw ((12:Int)≤12)<|
 Ze6 Zx x0 x1 (List.replicate (Int.toNat 12) [AV.val (.int .i64 0),AV.val (.int .i64 0),AV.val (.int .i64 0),AV.slice false 3 E0,AV.val (.int .i64 0),AV.val (.int .i64 0),AV.val (.int .i64 0),AV.val (.int .i64 0),AV.val (.int .i64 0),AV.val (.int .i64 0),AV.val (.bool false),AV.val (.int .i64 0),AV.val (.int .i64 0),AV.val (.int .i64 0),AV.val (.int .i64 0)]) 0):=by kernel_rfl
noncomputable def F26:Fn:=⟨10,[2],[],[],0,[],[],Tryz.f26,[.c (.int .i64)],[.agg [.int .i64,.int .i64,.int .i64]],[(9,F9.S)]⟩
theorem ZyB:F26.S.Ok Tryz.prog 26:=F26.ok Tryz.func26 (by kernel_rfl) ⟨ok9,trivial⟩
noncomputable def g26 (x0:Int):Option (Int×Int×Int):=F26.S.g [.i x0]
theorem ZtL (x0:Int):g26 x0 =
 ((g9 x0 4).bind fun (r1:Int)=>
 Zw ((4:Int)≠0)<|
 (g9 (iop .quo .i64 x0 4) 20).bind fun (r2:Int)=>
 some (r1,(iop .add .i64 1 r2),0)):=by kernel_rfl
noncomputable def F28:Fn:=⟨12,[4],[],[],0,[],[],Tryz.f28,[.c (.slice 1),.c (.int .i64)],[.c (.slice 1)],[]⟩
theorem ZzY:F28.S.Ok Tryz.prog 28:=F28.ok Tryz.func28 (by kernel_rfl) trivial
noncomputable def g28 (x0:LL) (x1:Int):Option (LL):=F28.S.g [.l x0,.i x1]
theorem Zuu (x0:LL) (x1:Int):g28 x0 x1 =
 (if (cop .geq x1 (List.length x0:Int))=true then
 some (E0)
 else
 Zw ((0:Int)≤x1)<|
 Zw ((x1:Int)≤(List.length x0:Int))<|
 some ((List.drop (Int.toNat x1) x0))):=by kernel_rfl
noncomputable def F27:Fn:=⟨69,[4],[],[],0,[],[],Tryz.f27,[.c (.slice 1),.agg hs8],[.agg hs3],[(25,F25.S),(26,F26.S),(9,F9.S),(30,F30.S)]⟩
theorem ZzC:F27.S.Ok Tryz.prog 27:=F27.ok Tryz.func27 (by kernel_rfl) ⟨ZyJ,⟨ZyB,⟨ok9,⟨ZsN,trivial⟩⟩⟩⟩
noncomputable def g27 (x0:LL) (x1 x2 x3:Int) (x4:LL) (x5 x6 x7 x8 x9 x10:Int) (x11:Bool):Option (Qt5):=F27.S.g [.l x0,.i x1,.i x2,.i x3,.l x4,.i x5,.i x6,.i x7,.i x8,.i x9,.i x10,.b x11]
theorem Zs9 (x0:LL) (x1 x2 x3:Int) (x4:LL) (x5 x6 x7 x8 x9 x10:Int) (x11:Bool):g27 x0 x1 x2 x3 x4 x5 x6 x7 x8 x9 x10 x11 =
 ((g25 x0 0).bind fun (r12:Int)=>
 (g26 r12).bind fun (r13:Int×Int×Int)=>
 (g25 x0 1).bind fun (r16:Int)=>
 (g9 r16 3).bind fun (r17:Int)=>
 (g25 x0 2).bind fun (r18:Int)=>
 (g9 r18 2).bind fun (r19:Int)=>
 Zi ((E0++[[AV.val (.int .i64 32)]])++[[AV.val (.int .i64 39)]]) r19 [.int .i64] fun (r20:Int)=>
 (g30 x1 x2 x3 x4 x5 x6 x7 x8 x9 x10 x11).bind fun (r21:Qt17)=>
 (g25 x0 3).bind fun (r32:Int)=>
 (g9 r32 6).bind fun (r33:Int)=>
 (g25 x0 4).bind fun (r34:Int)=>
 (g9 r34 8).bind fun (r35:Int)=>
 (g25 x0 5).bind fun (r36:Int)=>
 (g9 r36 8).bind fun (r37:Int)=>
 (g25 x0 6).bind fun (r38:Int)=>
 (g9 r38 4).bind fun (r39:Int)=>
 (g25 x0 7).bind fun (r40:Int)=>
 (g9 r40 8).bind fun (r41:Int)=>
 (g25 x0 8).bind fun (r42:Int)=>
 (g9 r42 6).bind fun (r43:Int)=>
 (g25 x0 9).bind fun (r44:Int)=>
 (g9 r44 3).bind fun (r45:Int)=>
 (g25 x0 10).bind fun (r46:Int)=>
 (g9 r46 2).bind fun (r47:Int)=>
 (g25 x0 11).bind fun (r48:Int)=>
 (g9 r48 8).bind fun (r49:Int)=>
 Zw ((0:Int)≤12)<|
 (g25 x0 12).bind fun (r50:Int)=>
 (g9 r50 3).bind fun (r51:Int)=>
 (g25 x0 13).bind fun (r52:Int)=>
 (g25 x0 14).bind fun (r53:Int)=>
 if (cop .eql (iop .add .i64 1 r33) 1)=true then
 some (r13.1,r13.2.1,r13.2.2,(iop .add .i64 1 r33),r35,r37,r39,r41,(iop .add .i64 1 r43),(iop .add .i64 12 r45),r47,(iop .shl .i64 r49 12),(iop .add .i64 1 r51),r52,r53,r17,r20,0,0,0,E0,0,0,0,0,0,0,false)
 else
 some (r13.1,r13.2.1,r13.2.2,(iop .add .i64 1 r33),r35,r37,r39,r41,(iop .add .i64 1 r43),(iop .add .i64 12 r45),r47,(iop .shl .i64 r49 12),(iop .add .i64 1 r51),r52,r53,r17,r20,r21.1,r21.2.1,r21.2.2.1,r21.2.2.2.1,r21.2.2.2.2.1,r21.2.2.2.2.2.1,r21.2.2.2.2.2.2.1,r21.2.2.2.2.2.2.2.1,r21.2.2.2.2.2.2.2.2.1,r21.2.2.2.2.2.2.2.2.2.1,r21.2.2.2.2.2.2.2.2.2.2)):=by kernel_rfl
noncomputable def F10:Fn:=⟨203,[6],[(3,[(0,.c (.slice 1)),(1,.c (.slice 13)),(6,.box hs16),(7,.box hs15),(8,.c (.int .i64))]),(10,[(0,.c (.slice 1)),(1,.c (.slice 13)),(6,.box hs16),(7,.box hs15),(9,.c (.int .i64))]),(17,[(0,.c (.slice 1)),(1,.c (.slice 13)),(6,.box hs16),(7,.box hs15),(12,.c (.int .i64))]),(22,[(0,.c (.slice 1)),(1,.c (.slice 13)),(6,.box hs16),(7,.box hs15),(14,.c (.int .i64))]),(27,[(0,.c (.slice 1)),(1,.c (.slice 13)),(6,.box hs16),(7,.box hs15),(16,.c (.int .i64))])],[],0,[],[(33,[(7,1)])],Tryz.f10,[.c (.slice 1),.c (.slice 13),.c (.int .i64)],[.agg hs16],[(14,F14.S),(25,F25.S),(9,F9.S),(21,F21.S),(26,F26.S),(28,F28.S),(27,F27.S),(29,F29.S)]⟩
theorem Zzp:F10.S.Ok Tryz.prog 10:=F10.ok Tryz.func10 (by kernel_rfl) ⟨Zzm,⟨ZyJ,⟨ok9,⟨Zwo,⟨ZyB,⟨ZzY,⟨ZzC,⟨ZyU,trivial⟩⟩⟩⟩⟩⟩⟩⟩
noncomputable def g10 (x0 x1:LL) (x2:Int):Option (Qt19):=F10.S.g [.l x0,.l x1,.i x2]
noncomputable def Zlh (k:Nat) (x0 x1 x2 x3 x4 x5 x6 x7 x8 x9 x10 x11 x12 x13:LL) (x14:Int):Option (Qt19):=F10.lp [2,1,4,1,3,1,3,1,0] 0 r0 k [.l x0,.l x1,.l x2,.l x3,.l x4,.l x5,.l x6,.l x7,.l x8,.l x9,.l x10,.l x11,.l x12,.l x13,.i x14]
theorem Zpk (k:Nat) (x0 x1 x2 x3 x4 x5 x6 x7 x8 x9 x10 x11 x12 x13:LL) (x14:Int):Zlh (k+1) x0 x1 x2 x3 x4 x5 x6 x7 x8 x9 x10 x11 x12 x13 x14 =
 ((g25 x0 18).bind fun (r15:Int)=>
 (g9 r15 3).bind fun (r16:Int)=>
 if (cop .lss x14 r16)=true then
 if (cop .lss x14 (List.length x1:Int))=true then
 Zw (Ja E0 x12 120)<|
 Zi x1 x14 hs7 fun (r17:Qt12)=>
 Zw (Ja x12 (E0++[[AV.val (.int .i64 r17.1),AV.val (.int .i64 r17.2.1),AV.val (.int .i64 r17.2.2.1),AV.val (.int .i64 r17.2.2.2.1),AV.val (.int .i64 r17.2.2.2.2.1),AV.slice false 3 r17.2.2.2.2.2.1,AV.val (.int .i64 r17.2.2.2.2.2.2.1),AV.val (.int .i64 r17.2.2.2.2.2.2.2.1),AV.val (.int .i64 r17.2.2.2.2.2.2.2.2.1),AV.val (.int .i64 r17.2.2.2.2.2.2.2.2.2.1),AV.val (.int .i64 r17.2.2.2.2.2.2.2.2.2.2.1),AV.val (.int .i64 r17.2.2.2.2.2.2.2.2.2.2.2.1),AV.val (.bool (d4 (d8 r17)))]]) 120)<|
 Zw (Ja E0 x13 24)<|
 (g25 x0 (iop .add .i64 19 x14)).bind fun (r30:Int)=>
 (g26 r30).bind fun (r31:Int×Int×Int)=>
 Zw (Ja x13 (E0++[[AV.val (.int .i64 r31.1),AV.val (.int .i64 r31.2.1),AV.val (.int .i64 r31.2.2)]]) 24)<|
 Zlh k x0 x1 x2 x3 x4 x5 x6 x7 x8 x9 x10 x11 (x12++(E0++[[AV.val (.int .i64 r17.1),AV.val (.int .i64 r17.2.1),AV.val (.int .i64 r17.2.2.1),AV.val (.int .i64 r17.2.2.2.1),AV.val (.int .i64 r17.2.2.2.2.1),AV.slice false 3 r17.2.2.2.2.2.1,AV.val (.int .i64 r17.2.2.2.2.2.2.1),AV.val (.int .i64 r17.2.2.2.2.2.2.2.1),AV.val (.int .i64 r17.2.2.2.2.2.2.2.2.1),AV.val (.int .i64 r17.2.2.2.2.2.2.2.2.2.1),AV.val (.int .i64 r17.2.2.2.2.2.2.2.2.2.2.1),AV.val (.int .i64 r17.2.2.2.2.2.2.2.2.2.2.2.1),AV.val (.bool (d4 (d8 r17)))]])) (x13++(E0++[[AV.val (.int .i64 r31.1),AV.val (.int .i64 r31.2.1),AV.val (.int .i64 r31.2.2)]])) (iop .add .i64 x14 1)
 else
 some (x8,x9,x10,x11,x12,x13)
 else
 some (x8,x9,x10,x11,x12,x13)):=by kernel_rfl
noncomputable def ZkF (k:Nat) (x0 x1 x2 x3 x4 x5 x6 x7 x8 x9 x10 x11 x12 x13:LL) (x14:Int):Option (Qt19):=F10.lp [2,1,4,1,3,1,0] 0 r0 k [.l x0,.l x1,.l x2,.l x3,.l x4,.l x5,.l x6,.l x7,.l x8,.l x9,.l x10,.l x11,.l x12,.l x13,.i x14]
theorem ZnQ (k:Nat) (x0 x1 x2 x3 x4 x5 x6 x7 x8 x9 x10 x11 x12 x13:LL) (x14:Int):ZkF (k+1) x0 x1 x2 x3 x4 x5 x6 x7 x8 x9 x10 x11 x12 x13 x14 =
 ((g25 x0 16).bind fun (r15:Int)=>
 (g9 r15 3).bind fun (r16:Int)=>
 if (cop .lss x14 r16)=true then
 Zw (Ja E0 x11 16)<|
 (g25 x0 (iop .add .i64 17 x14)).bind fun (r17:Int)=>
 (g9 r17 20).bind fun (r18:Int)=>
 Zw (Ja x11 (E0++[[AV.val (.int .i64 (iop .add .i64 x14 1)),AV.val (.int .i64 r18)]]) 16)<|
 ZkF k x0 x1 x2 x3 x4 x5 x6 x7 x8 x9 x10 (x11++(E0++[[AV.val (.int .i64 (iop .add .i64 x14 1)),AV.val (.int .i64 r18)]])) x12 x13 (iop .add .i64 x14 1)
 else
 Zlh Zx x0 x1 x2 x3 x4 x5 x6 x7 x8 x9 x10 x11 x12 x13 0):=by kernel_rfl
noncomputable def ZiF (k:Nat) (x0 x1 x2 x3 x4 x5 x6 x7 x8 x9 x10 x11 x12 x13:LL) (x14:Int):Option (Qt19):=F10.lp [2,1,4,1,0] 0 r0 k [.l x0,.l x1,.l x2,.l x3,.l x4,.l x5,.l x6,.l x7,.l x8,.l x9,.l x10,.l x11,.l x12,.l x13,.i x14]
theorem ZoB (k:Nat) (x0 x1 x2 x3 x4 x5 x6 x7 x8 x9 x10 x11 x12 x13:LL) (x14:Int):ZiF (k+1) x0 x1 x2 x3 x4 x5 x6 x7 x8 x9 x10 x11 x12 x13 x14 =
 ((g25 x0 14).bind fun (r15:Int)=>
 (g9 r15 3).bind fun (r16:Int)=>
 if (cop .lss x14 r16)=true then
 Zw (Ja E0 x10 32)<|
 (g25 x0 (iop .add .i64 15 x14)).bind fun (r17:Int)=>
 (g26 r17).bind fun (r18:Int×Int×Int)=>
 Zw (Ja x10 (E0++[[AV.val (.int .i64 x14),AV.val (.int .i64 r18.1),AV.val (.int .i64 r18.2.1),AV.val (.int .i64 r18.2.2)]]) 32)<|
 ZiF k x0 x1 x2 x3 x4 x5 x6 x7 x8 x9 (x10++(E0++[[AV.val (.int .i64 x14),AV.val (.int .i64 r18.1),AV.val (.int .i64 r18.2.1),AV.val (.int .i64 r18.2.2)]])) x11 x12 x13 (iop .add .i64 x14 1)
 else
 ZkF Zx x0 x1 x2 x3 x4 x5 x6 x7 x8 x9 x10 x11 x12 x13 0):=by kernel_rfl
noncomputable def Zfy (k:Nat) (x0 x1 x2 x3 x4 x5 x6 x7 x8 x9 x10 x11 x12 x13:LL) (x14:Int):Option (Qt19):=F10.lp [2,1,0] 0 r0 k [.l x0,.l x1,.l x2,.l x3,.l x4,.l x5,.l x6,.l x7,.l x8,.l x9,.l x10,.l x11,.l x12,.l x13,.i x14]
theorem Zn5 (k:Nat) (x0 x1 x2 x3 x4 x5 x6 x7 x8 x9 x10 x11 x12 x13:LL) (x14:Int):Zfy (k+1) x0 x1 x2 x3 x4 x5 x6 x7 x8 x9 x10 x11 x12 x13 x14 =
 ((g25 x0 12).bind fun (r15:Int)=>
 (g9 r15 3).bind fun (r16:Int)=>
 if (cop .lss x14 r16)=true then
 if (cop .gtr (List.length x1:Int) 0)=true then
 (g28 x0 (iop .add .i64 13 x14)).bind fun (r17:LL)=>
 (g25 x0 x14).bind fun (r18:Int)=>
 (g9 r18 (List.length x1:Int)).bind fun (r19:Int)=>
 Zi x1 r19 hs7 fun (r20:Qt12)=>
 (g27 r17 r20.2.2.1 r20.2.2.2.1 r20.2.2.2.2.1 r20.2.2.2.2.2.1 r20.2.2.2.2.2.2.1 r20.2.2.2.2.2.2.2.1 r20.2.2.2.2.2.2.2.2.1 r20.2.2.2.2.2.2.2.2.2.1 r20.2.2.2.2.2.2.2.2.2.2.1 r20.2.2.2.2.2.2.2.2.2.2.2.1 (d4 (d8 r20))).bind fun (r33:Qt5)=>
 if (cop .eql (List.length x9:Int) 0)=true then
 Zw (Ja E0 x9 240)<|
 Zw (Ja x9 (E0++[[I r33.1,I r33.2.1,I r33.2.2.1,I r33.2.2.2.1,I r33.2.2.2.2.1,I r33.2.2.2.2.2.1,I r33.2.2.2.2.2.2.1,I r33.2.2.2.2.2.2.2.1,I r33.2.2.2.2.2.2.2.2.1,I r33.2.2.2.2.2.2.2.2.2.1,I r33.2.2.2.2.2.2.2.2.2.2.1,I r33.2.2.2.2.2.2.2.2.2.2.2.1,AV.val (.int .i64 (d4 (d8 r33)).1),AV.val (.int .i64 (d4 (d8 r33)).2.1),AV.val (.int .i64 (d2 (d4 (d8 r33))).1),AV.val (.int .i64 (d2 (d4 (d8 r33))).2.1),AV.val (.int .i64 (d16 r33).1),AV.val (.int .i64 (d16 r33).2.1),AV.val (.int .i64 (d2 (d16 r33)).1),AV.val (.int .i64 (d2 (d16 r33)).2.1),AV.slice false 3 (d4 (d16 r33)).1,AV.val (.int .i64 (d4 (d16 r33)).2.1),AV.val (.int .i64 (d2 (d4 (d16 r33))).1),AV.val (.int .i64 (d2 (d4 (d16 r33))).2.1),AV.val (.int .i64 (d8 (d16 r33)).1),AV.val (.int .i64 (d8 (d16 r33)).2.1),AV.val (.int .i64 (d2 (d8 (d16 r33))).1),AV.val (.bool (d2 (d8 (d16 r33))).2)]]) 240)<|
 Zfy k x0 x1 x2 x3 x4 x5 x6 x7 x8 (x9++(E0++[[I r33.1,I r33.2.1,I r33.2.2.1,I r33.2.2.2.1,I r33.2.2.2.2.1,I r33.2.2.2.2.2.1,I r33.2.2.2.2.2.2.1,I r33.2.2.2.2.2.2.2.1,I r33.2.2.2.2.2.2.2.2.1,I r33.2.2.2.2.2.2.2.2.2.1,I r33.2.2.2.2.2.2.2.2.2.2.1,I r33.2.2.2.2.2.2.2.2.2.2.2.1,AV.val (.int .i64 (d4 (d8 r33)).1),AV.val (.int .i64 (d4 (d8 r33)).2.1),AV.val (.int .i64 (d2 (d4 (d8 r33))).1),AV.val (.int .i64 (d2 (d4 (d8 r33))).2.1),AV.val (.int .i64 (d16 r33).1),AV.val (.int .i64 (d16 r33).2.1),AV.val (.int .i64 (d2 (d16 r33)).1),AV.val (.int .i64 (d2 (d16 r33)).2.1),AV.slice false 3 (d4 (d16 r33)).1,AV.val (.int .i64 (d4 (d16 r33)).2.1),AV.val (.int .i64 (d2 (d4 (d16 r33))).1),AV.val (.int .i64 (d2 (d4 (d16 r33))).2.1),AV.val (.int .i64 (d8 (d16 r33)).1),AV.val (.int .i64 (d8 (d16 r33)).2.1),AV.val (.int .i64 (d2 (d8 (d16 r33))).1),AV.val (.bool (d2 (d8 (d16 r33))).2)]])) x10 x11 x12 x13 (iop .add .i64 x14 1)
 else
 Zi x9 (iop .sub .i64 (List.length x9:Int) 1) hs3 fun (r61:Qt5)=>
 (g29 r61.1 r61.2.1 r61.2.2.1 r33.1 r33.2.1 r33.2.2.1).bind fun (r89:Bool)=>
 if r89=true then
 Zw (Ja E0 x9 240)<|
 Zw (Ja x9 (E0++[[I r33.1,I r33.2.1,I r33.2.2.1,I r33.2.2.2.1,I r33.2.2.2.2.1,I r33.2.2.2.2.2.1,I r33.2.2.2.2.2.2.1,I r33.2.2.2.2.2.2.2.1,I r33.2.2.2.2.2.2.2.2.1,I r33.2.2.2.2.2.2.2.2.2.1,I r33.2.2.2.2.2.2.2.2.2.2.1,I r33.2.2.2.2.2.2.2.2.2.2.2.1,AV.val (.int .i64 (d4 (d8 r33)).1),AV.val (.int .i64 (d4 (d8 r33)).2.1),AV.val (.int .i64 (d2 (d4 (d8 r33))).1),AV.val (.int .i64 (d2 (d4 (d8 r33))).2.1),AV.val (.int .i64 (d16 r33).1),AV.val (.int .i64 (d16 r33).2.1),AV.val (.int .i64 (d2 (d16 r33)).1),AV.val (.int .i64 (d2 (d16 r33)).2.1),AV.slice false 3 (d4 (d16 r33)).1,AV.val (.int .i64 (d4 (d16 r33)).2.1),AV.val (.int .i64 (d2 (d4 (d16 r33))).1),AV.val (.int .i64 (d2 (d4 (d16 r33))).2.1),AV.val (.int .i64 (d8 (d16 r33)).1),AV.val (.int .i64 (d8 (d16 r33)).2.1),AV.val (.int .i64 (d2 (d8 (d16 r33))).1),AV.val (.bool (d2 (d8 (d16 r33))).2)]]) 240)<|
 Zfy k x0 x1 x2 x3 x4 x5 x6 x7 x8 (x9++(E0++[[I r33.1,I r33.2.1,I r33.2.2.1,I r33.2.2.2.1,I r33.2.2.2.2.1,I r33.2.2.2.2.2.1,I r33.2.2.2.2.2.2.1,I r33.2.2.2.2.2.2.2.1,I r33.2.2.2.2.2.2.2.2.1,I r33.2.2.2.2.2.2.2.2.2.1,I r33.2.2.2.2.2.2.2.2.2.2.1,I r33.2.2.2.2.2.2.2.2.2.2.2.1,AV.val (.int .i64 (d4 (d8 r33)).1),AV.val (.int .i64 (d4 (d8 r33)).2.1),AV.val (.int .i64 (d2 (d4 (d8 r33))).1),AV.val (.int .i64 (d2 (d4 (d8 r33))).2.1),AV.val (.int .i64 (d16 r33).1),AV.val (.int .i64 (d16 r33).2.1),AV.val (.int .i64 (d2 (d16 r33)).1),AV.val (.int .i64 (d2 (d16 r33)).2.1),AV.slice false 3 (d4 (d16 r33)).1,AV.val (.int .i64 (d4 (d16 r33)).2.1),AV.val (.int .i64 (d2 (d4 (d16 r33))).1),AV.val (.int .i64 (d2 (d4 (d16 r33))).2.1),AV.val (.int .i64 (d8 (d16 r33)).1),AV.val (.int .i64 (d8 (d16 r33)).2.1),AV.val (.int .i64 (d2 (d8 (d16 r33))).1),AV.val (.bool (d2 (d8 (d16 r33))).2)]])) x10 x11 x12 x13 (iop .add .i64 x14 1)
 else
 Zfy k x0 x1 x2 x3 x4 x5 x6 x7 x8 x9 x10 x11 x12 x13 (iop .add .i64 x14 1)
 else
 ZiF Zx x0 x1 x2 x3 x4 x5 x6 x7 x8 x9 x10 x11 x12 x13 0
 else
 ZiF Zx x0 x1 x2 x3 x4 x5 x6 x7 x8 x9 x10 x11 x12 x13 0):=by kernel_rfl
noncomputable def Zbv (k:Nat) (x0 x1 x2 x3 x4 x5 x6 x7 x8 x9 x10 x11 x12 x13:LL) (x14:Int):Option (Qt19):=F10.lp [2] 0 r0 k [.l x0,.l x1,.l x2,.l x3,.l x4,.l x5,.l x6,.l x7,.l x8,.l x9,.l x10,.l x11,.l x12,.l x13,.i x14]
theorem Zol (k:Nat) (x0 x1 x2 x3 x4 x5 x6 x7 x8 x9 x10 x11 x12 x13:LL) (x14:Int):Zbv (k+1) x0 x1 x2 x3 x4 x5 x6 x7 x8 x9 x10 x11 x12 x13 x14 =
 (if (cop .lss x14 (List.length x8:Int))=true then
 (g25 x0 x14).bind fun (r15:Int)=>
 (g9 r15 5).bind fun (r16:Int)=>
 if (cop .eql r16 4)=true then
 Zw ((0:Int)≤x14)<|
 Zw ((x14:Int) < (List.length x8:Int))<|
 Zi x8 x14 hs6 fun (r17:Qt11)=>
 (g21 r17.1 r17.2.1 r17.2.2.1 r17.2.2.2.1 r17.2.2.2.2.1 r17.2.2.2.2.2.1 r17.2.2.2.2.2.2.1 r17.2.2.2.2.2.2.2.1 r17.2.2.2.2.2.2.2.2.1 r17.2.2.2.2.2.2.2.2.2.1 r17.2.2.2.2.2.2.2.2.2.2.1 r17.2.2.2.2.2.2.2.2.2.2.2.1 (d4 (d8 r17)).1 (d4 (d8 r17)).2.1 (d2 (d4 (d8 r17)))).bind fun (r32:Bool)=>
 if (!r32)=true then
 (g25 x0 x14).bind fun (r33:Int)=>
 Zw ((5:Int)≠0)<|
 (g26 (iop .quo .i64 r33 5)).bind fun (r34:Int×Int×Int)=>
 Zw ((0:Int)≤x14)<|
 Zw ((x14:Int) < (List.length x8:Int))<|
 Zw ((0:Int)≤x14)<|
 Zw ((x14:Int) < (List.length x8:Int))<|
 (g25 x0 x14).bind fun (r37:Int)=>
 (g9 r37 7).bind fun (r38:Int)=>
 if (cop .eql r38 6)=true then
 (g25 x0 x14).bind fun (r39:Int)=>
 Zw ((7:Int)≠0)<|
 (g9 (iop .quo .i64 r39 7) 20).bind fun (r40:Int)=>
 Zw ((0:Int)≤x14)<|
 Zw ((x14:Int) < (List.length (Zy x8 (Int.toNat x14) 12 [AV.val (.int .i64 r34.1),AV.val (.int .i64 r34.2.1),AV.val (.int .i64 r34.2.2)]):Int))<|
 Zw ((0:Int)≤x14)<|
 Zw ((x14:Int) < (List.length (Zy x8 (Int.toNat x14) 12 [AV.val (.int .i64 r34.1),AV.val (.int .i64 r34.2.1),AV.val (.int .i64 r34.2.2)]):Int))<|
 Zbv k x0 x1 x2 x3 x4 x5 x6 x7 (Zy (Zy x8 (Int.toNat x14) 12 [AV.val (.int .i64 r34.1),AV.val (.int .i64 r34.2.1),AV.val (.int .i64 r34.2.2)]) (Int.toNat x14) 11 [AV.val (.int .i64 (iop .add .i64 1 r40))]) x9 x10 x11 x12 x13 (iop .add .i64 x14 1)
 else
 Zbv k x0 x1 x2 x3 x4 x5 x6 x7 (Zy x8 (Int.toNat x14) 12 [AV.val (.int .i64 r34.1),AV.val (.int .i64 r34.2.1),AV.val (.int .i64 r34.2.2)]) x9 x10 x11 x12 x13 (iop .add .i64 x14 1)
 else
 (g25 x0 x14).bind fun (r33:Int)=>
 (g9 r33 7).bind fun (r34:Int)=>
 if (cop .eql r34 6)=true then
 (g25 x0 x14).bind fun (r35:Int)=>
 Zw ((7:Int)≠0)<|
 (g9 (iop .quo .i64 r35 7) 20).bind fun (r36:Int)=>
 Zw ((0:Int)≤x14)<|
 Zw ((x14:Int) < (List.length x8:Int))<|
 Zw ((0:Int)≤x14)<|
 Zw ((x14:Int) < (List.length x8:Int))<|
 Zbv k x0 x1 x2 x3 x4 x5 x6 x7 (Zy x8 (Int.toNat x14) 11 [AV.val (.int .i64 (iop .add .i64 1 r36))]) x9 x10 x11 x12 x13 (iop .add .i64 x14 1)
 else
 Zbv k x0 x1 x2 x3 x4 x5 x6 x7 x8 x9 x10 x11 x12 x13 (iop .add .i64 x14 1)
 else
 (g25 x0 x14).bind fun (r17:Int)=>
 (g9 r17 7).bind fun (r18:Int)=>
 if (cop .eql r18 6)=true then
 (g25 x0 x14).bind fun (r19:Int)=>
 Zw ((7:Int)≠0)<|
 (g9 (iop .quo .i64 r19 7) 20).bind fun (r20:Int)=>
 Zw ((0:Int)≤x14)<|
 Zw ((x14:Int) < (List.length x8:Int))<|
 Zw ((0:Int)≤x14)<|
 Zw ((x14:Int) < (List.length x8:Int))<|
 Zbv k x0 x1 x2 x3 x4 x5 x6 x7 (Zy x8 (Int.toNat x14) 11 [AV.val (.int .i64 (iop .add .i64 1 r20))]) x9 x10 x11 x12 x13 (iop .add .i64 x14 1)
 else
 Zbv k x0 x1 x2 x3 x4 x5 x6 x7 x8 x9 x10 x11 x12 x13 (iop .add .i64 x14 1)
 else
 Zfy Zx x0 x1 x2 x3 x4 x5 x6 x7 x8 x9 x10 x11 x12 x13 0):=by kernel_rfl
theorem Zuv (x0 x1:LL) (x2:Int):g10 x0 x1 x2 =
 ((g14 x1 x2).bind fun (r3:LL)=>
 Zbv Zx x0 x1 E0 E0 E0 E0 E0 E0 r3 E0 E0 E0 E0 E0 0):=by kernel_rfl
noncomputable def F54:Fn:=⟨15,[6],[],[],0,[],[],Tryz.f54,[.c (.int .i64),.c (.int .i64),.c (.int .i64)],[.agg [.int .i64,.int .i64,.int .i64]],[(9,F9.S)]⟩
noncomputable def g54 (x0 x1 x2:Int):Option (Int×Int×Int):=F54.S.g [.i x0,.i x1,.i x2]
theorem Ztz (x0 x1 x2:Int):g54 x0 x1 x2 =
 ((g9 x0 4).bind fun (r3:Int)=>
 (g9 x1 12).bind fun (r4:Int)=>
 (g9 x2 3).bind fun (r5:Int)=>
 some (r3,(iop .add .i64 1 r4),r5)):=by kernel_rfl
noncomputable def F31:Fn:=⟨41,[2],[(3,[(0,.c (.slice 1)),(3,.c (.own false 37)),(4,.c (.int .i64))])],[],0,[],[],Tryz.f31,[.c (.slice 1)],[.c (.own false 37)],[(54,F54.S),(18,F18.S)]⟩
noncomputable def g31 (x0:LL):Option (LL):=F31.S.g [.l x0]
noncomputable def ZiV (k:Nat) (x0 x1:LL) (x2:Int):Option (LL):=F31.lp [0] 0 r0 k [.l x0,.l x1,.i x2]
theorem Zj0 (k:Nat) (x0 x1:LL) (x2:Int):ZiV (k+1) x0 x1 x2 =
 (if (cop .lss x2 (List.length x0:Int))=true then
 if (cop .lss (List.length x1:Int) 8)=true then
 Zi x0 x2 [.int .i64] fun (r3:Int)=>
 Zi x0 x2 [.int .i64] fun (r4:Int)=>
 Zw ((4:Int)≠0)<|
 Zi x0 x2 [.int .i64] fun (r5:Int)=>
 Zw ((48:Int)≠0)<|
 (g54 r3 (iop .quo .i64 r4 4) (iop .quo .i64 r5 48)).bind fun (r6:Int×Int×Int)=>
 (g18 x1 r6.1 r6.2.1 r6.2.2).bind fun (r9:Bool)=>
 if (!r9)=true then
 Zw (Ja x1 (E0++[[AV.val (.int .i64 r6.1),AV.val (.int .i64 r6.2.1),AV.val (.int .i64 r6.2.2)]]) 24)<|
 ZiV k x0 (x1++(E0++[[AV.val (.int .i64 r6.1),AV.val (.int .i64 r6.2.1),AV.val (.int .i64 r6.2.2)]])) (iop .add .i64 x2 1)
 else
 ZiV k x0 x1 (iop .add .i64 x2 1)
 else
 some (x1)
 else
 some (x1)):=by kernel_rfl
theorem ZuH (x0:LL):g31 x0 =
 (ZiV Zx x0 E0 0):=by kernel_rfl
noncomputable def F32:Fn:=⟨20,[2],[(3,[(0,.c (.int .i64)),(3,.c (.own false 3)),(4,.c (.int .i64))])],[],0,[],[],Tryz.f32,[.c (.int .i64)],[.c (.own false 3)],[(9,F9.S)]⟩
noncomputable def g32 (x0:Int):Option (LL):=F32.S.g [.i x0]
noncomputable def ZkI (k:Nat) (x0:Int) (x1:LL) (x2:Int):Option (LL):=F32.lp [0] 0 r0 k [.i x0,.l x1,.i x2]
theorem ZnV (k:Nat) (x0:Int) (x1:LL) (x2:Int):ZkI (k+1) x0 x1 x2 =
 (if (cop .lss x2 4)=true then
 Zw ((0:Int)≤(IntKind.wrap .u64 x2))<|
 (g9 (iop .shr .i64 x0 (IntKind.wrap .u64 x2)) 2).bind fun (r3:Int)=>
 if (cop .eql r3 1)=true then
 Zw (Ja x1 (E0++[[AV.val (.int .i64 x2)]]) 8)<|
 ZkI k x0 (x1++(E0++[[AV.val (.int .i64 x2)]])) (iop .add .i64 x2 1)
 else
 ZkI k x0 x1 (iop .add .i64 x2 1)
 else
 some (x1)):=by kernel_rfl
theorem ZsD (x0:Int):g32 x0 =
 (ZkI Zx x0 E0 0):=by kernel_rfl
noncomputable def F34:Fn:=⟨58,[2],[(3,[(0,.c (.slice 1)),(2,.box [.int .i64,.slice 1,.slice 1]),(3,.box [.int .i64,.slice 1,.slice 1]),(4,.c (.int .i64))]),(10,[(0,.c (.slice 1)),(2,.box [.int .i64,.slice 1,.slice 1]),(3,.box [.int .i64,.slice 1,.slice 1]),(7,.c (.int .i64))])],[],0,[],[],Tryz.f34,[.c (.slice 1)],[.agg [.int .i64,.slice 1,.slice 1]],[(25,F25.S),(9,F9.S),(55,F55.S)]⟩
noncomputable def g34 (x0:LL):Option (Int×LL×LL):=F34.S.g [.l x0]
noncomputable def Zlf (k:Nat) (x0:LL) (x1:Int) (x2 x3:LL) (x4:Int) (x5 x6:LL) (x7:Int):Option (Int×LL×LL):=F34.lp [5,1,0] 0 r0 k [.l x0,.i x1,.l x2,.l x3,.i x4,.l x5,.l x6,.i x7]
theorem Zpi (k:Nat) (x0:LL) (x1:Int) (x2 x3:LL) (x4:Int) (x5 x6:LL) (x7:Int):Zlf (k+1) x0 x1 x2 x3 x4 x5 x6 x7 =
 ((g25 x0 6).bind fun (r8:Int)=>
 (g9 r8 3).bind fun (r9:Int)=>
 if (cop .lss x7 r9)=true then
 Zw (Ja E0 x6 8)<|
 (g25 x0 (iop .add .i64 7 x7)).bind fun (r10:Int)=>
 (g9 r10 4).bind fun (r11:Int)=>
 Zw (Ja x6 (E0++[[AV.val (.int .i64 r11)]]) 8)<|
 Zlf k x0 x1 x2 x3 x4 x5 (x6++(E0++[[AV.val (.int .i64 r11)]])) (iop .add .i64 x7 1)
 else
 some (x4,x5,x6)):=by kernel_rfl
noncomputable def Zkv (k:Nat) (x0:LL) (x1:Int) (x2 x3:LL) (x4:Int) (x5 x6:LL) (x7:Int):Option (Int×LL×LL):=F34.lp [3] 0 r0 k [.l x0,.i x1,.l x2,.l x3,.i x4,.l x5,.l x6,.i x7]
theorem ZoY (k:Nat) (x0:LL) (x1:Int) (x2 x3:LL) (x4:Int) (x5 x6:LL) (x7:Int):Zkv (k+1) x0 x1 x2 x3 x4 x5 x6 x7 =
 ((g25 x0 1).bind fun (r8:Int)=>
 (g9 r8 4).bind fun (r9:Int)=>
 if (cop .lss x7 r9)=true then
 (g25 x0 (iop .add .i64 2 x7)).bind fun (r10:Int)=>
 (g9 r10 4).bind fun (r11:Int)=>
 (g55 x5 r11).bind fun (r12:Bool)=>
 if (!r12)=true then
 Zw (Ja E0 x5 8)<|
 Zw (Ja x5 (E0++[[AV.val (.int .i64 r11)]]) 8)<|
 Zkv k x0 x1 x2 x3 x4 (x5++(E0++[[AV.val (.int .i64 r11)]])) x6 (iop .add .i64 x7 1)
 else
 Zkv k x0 x1 x2 x3 x4 x5 x6 (iop .add .i64 x7 1)
 else
 Zlf Zx x0 x1 x2 x3 x4 x5 x6 0):=by kernel_rfl
theorem Zso (x0:LL):g34 x0 =
 ((g25 x0 0).bind fun (r1:Int)=>
 (g9 r1 200).bind fun (r2:Int)=>
 Zkv Zx x0 0 E0 E0 r2 E0 E0 0):=by kernel_rfl
noncomputable def F33:Fn:=⟨37,[4],[],[],0,[],[],Tryz.f33,[.c (.slice 1),.c (.slice 13)],[.agg hs4],[(25,F25.S),(9,F9.S),(28,F28.S),(34,F34.S),(10,F10.S)]⟩
noncomputable def g33 (x0 x1:LL):Option (Qt10):=F33.S.g [.l x0,.l x1]
theorem Zu4 (x0 x1:LL):g33 x0 x1 =
 ((g25 x0 0).bind fun (r2:Int)=>
 (g9 r2 4).bind fun (r3:Int)=>
 (g28 x0 1).bind fun (r4:LL)=>
 (g34 r4).bind fun (r5:Int×LL×LL)=>
 (g28 x0 2).bind fun (r8:LL)=>
 (g10 r8 x1 r3).bind fun (r9:Qt19)=>
 (g25 x0 3).bind fun (r15:Int)=>
 (g9 r15 2).bind fun (r16:Int)=>
 if (cop .eql r16 1)=true then
 (g28 x0 4).bind fun (r17:LL)=>
 (g34 r17).bind fun (r18:Int×LL×LL)=>
 (g28 x0 5).bind fun (r21:LL)=>
 (g10 r21 x1 r3).bind fun (r22:Qt19)=>
 some (r3,r5.1,r5.2.1,r5.2.2,r9.1,r9.2.1,r9.2.2.1,r9.2.2.2.1,r9.2.2.2.2.1,r9.2.2.2.2.2,true,r18.1,r18.2.1,r18.2.2,r22.1,r22.2.1,r22.2.2.1,r22.2.2.2.1,r22.2.2.2.2.1,r22.2.2.2.2.2)
 else
 some (r3,r5.1,r5.2.1,r5.2.2,r9.1,r9.2.1,r9.2.2.1,r9.2.2.2.1,r9.2.2.2.2.1,r9.2.2.2.2.2,false,0,E0,E0,E0,E0,E0,E0,E0,E0)):=by kernel_rfl
noncomputable def F11:Fn:=⟨199,[6],[(18,[(1,.c (.slice 1)),(2,.c (.slice 13)),(6,.box hs0),(7,.box hs0),(9,.c (.int .i64))]),(41,[(1,.c (.slice 1)),(6,.box hs0),(7,.box hs0),(11,.c (.int .i64))])],[],0,[],[],Tryz.f11,[.c (.int .i64),.c (.slice 1),.c (.slice 13)],[.agg hs0],[(9,F9.S),(25,F25.S),(26,F26.S),(28,F28.S),(27,F27.S),(30,F30.S),(31,F31.S),(32,F32.S),(33,F33.S),(34,F34.S),(10,F10.S)]⟩
noncomputable def g11 (x0:Int) (x1 x2:LL):Option (Qt2):=F11.S.g [.i x0,.l x1,.l x2]
noncomputable def Zbs (k:Nat) (x0 x1:LL) (x2 x3 x4 x5 x6 x7 x8 x9 x10 x11 x12:Int) (x13:Bool) (x14 x15 x16 x17 x18 x19 x20 x21 x22 x23 x24 x25 x26 x27 x28 x29 x30 x31 x32 x33:Int) (x34:LL) (x35 x36 x37 x38 x39 x40:Int) (x41:Bool) (x42 x43 x44 x45:LL) (x46 x47:Int) (x48 x49 x50 x51 x52 x53 x54 x55:LL) (x56 x57:Int) (x58 x59 x60 x61 x62 x63 x64 x65:LL) (x66:Bool) (x67:Int) (x68 x69 x70 x71 x72 x73 x74 x75:LL) (x76 x77 x78 x79 x80 x81 x82 x83 x84 x85 x86:Int) (x87:Bool) (x88 x89 x90 x91 x92 x93 x94 x95 x96 x97 x98 x99 x100 x101 x102 x103 x104 x105 x106 x107:Int) (x108:LL) (x109 x110 x111 x112 x113 x114:Int) (x115:Bool) (x116 x117 x118 x119:LL) (x120 x121:Int) (x122 x123 x124 x125 x126 x127 x128 x129:LL) (x130 x131:Int) (x132 x133 x134 x135 x136 x137 x138 x139:LL) (x140:Bool) (x141:Int) (x142 x143 x144 x145 x146 x147 x148 x149:LL) (x150:Int):Option (Qt2):=F11.lp [10,4,3,2,1,0,5] 0 r0 k [.l x0,.l x1,.i x2,.i x3,.i x4,.i x5,.i x6,.i x7,.i x8,.i x9,.i x10,.i x11,.i x12,.b x13,.i x14,.i x15,.i x16,.i x17,.i x18,.i x19,.i x20,.i x21,.i x22,.i x23,.i x24,.i x25,.i x26,.i x27,.i x28,.i x29,.i x30,.i x31,.i x32,.i x33,.l x34,.i x35,.i x36,.i x37,.i x38,.i x39,.i x40,.b x41,.l x42,.l x43,.l x44,.l x45,.i x46,.i x47,.l x48,.l x49,.l x50,.l x51,.l x52,.l x53,.l x54,.l x55,.i x56,.i x57,.l x58,.l x59,.l x60,.l x61,.l x62,.l x63,.l x64,.l x65,.b x66,.i x67,.l x68,.l x69,.l x70,.l x71,.l x72,.l x73,.l x74,.l x75,.i x76,.i x77,.i x78,.i x79,.i x80,.i x81,.i x82,.i x83,.i x84,.i x85,.i x86,.b x87,.i x88,.i x89,.i x90,.i x91,.i x92,.i x93,.i x94,.i x95,.i x96,.i x97,.i x98,.i x99,.i x100,.i x101,.i x102,.i x103,.i x104,.i x105,.i x106,.i x107,.l x108,.i x109,.i x110,.i x111,.i x112,.i x113,.i x114,.b x115,.l x116,.l x117,.l x118,.l x119,.i x120,.i x121,.l x122,.l x123,.l x124,.l x125,.l x126,.l x127,.l x128,.l x129,.i x130,.i x131,.l x132,.l x133,.l x134,.l x135,.l x136,.l x137,.l x138,.l x139,.b x140,.i x141,.l x142,.l x143,.l x144,.l x145,.l x146,.l x147,.l x148,.l x149,.i x150]
theorem ZoZ (k:Nat) (x0 x1:LL) (x2 x3 x4 x5 x6 x7 x8 x9 x10 x11 x12:Int) (x13:Bool) (x14 x15 x16 x17 x18 x19 x20 x21 x22 x23 x24 x25 x26 x27 x28 x29 x30 x31 x32 x33:Int) (x34:LL) (x35 x36 x37 x38 x39 x40:Int) (x41:Bool) (x42 x43 x44 x45:LL) (x46 x47:Int) (x48 x49 x50 x51 x52 x53 x54 x55:LL) (x56 x57:Int) (x58 x59 x60 x61 x62 x63 x64 x65:LL) (x66:Bool) (x67:Int) (x68 x69 x70 x71 x72 x73 x74 x75:LL) (x76 x77 x78 x79 x80 x81 x82 x83 x84 x85 x86:Int) (x87:Bool) (x88 x89 x90 x91 x92 x93 x94 x95 x96 x97 x98 x99 x100 x101 x102 x103 x104 x105 x106 x107:Int) (x108:LL) (x109 x110 x111 x112 x113 x114:Int) (x115:Bool) (x116 x117 x118 x119:LL) (x120 x121:Int) (x122 x123 x124 x125 x126 x127 x128 x129:LL) (x130 x131:Int) (x132 x133 x134 x135 x136 x137 x138 x139:LL) (x140:Bool) (x141:Int) (x142 x143 x144 x145 x146 x147 x148 x149:LL) (x150:Int):Zbs (k+1) x0 x1 x2 x3 x4 x5 x6 x7 x8 x9 x10 x11 x12 x13 x14 x15 x16 x17 x18 x19 x20 x21 x22 x23 x24 x25 x26 x27 x28 x29 x30 x31 x32 x33 x34 x35 x36 x37 x38 x39 x40 x41 x42 x43 x44 x45 x46 x47 x48 x49 x50 x51 x52 x53 x54 x55 x56 x57 x58 x59 x60 x61 x62 x63 x64 x65 x66 x67 x68 x69 x70 x71 x72 x73 x74 x75 x76 x77 x78 x79 x80 x81 x82 x83 x84 x85 x86 x87 x88 x89 x90 x91 x92 x93 x94 x95 x96 x97 x98 x99 x100 x101 x102 x103 x104 x105 x106 x107 x108 x109 x110 x111 x112 x113 x114 x115 x116 x117 x118 x119 x120 x121 x122 x123 x124 x125 x126 x127 x128 x129 x130 x131 x132 x133 x134 x135 x136 x137 x138 x139 x140 x141 x142 x143 x144 x145 x146 x147 x148 x149 x150 =
 ((g25 x0 8).bind fun (r151:Int)=>
 (g9 r151 3).bind fun (r152:Int)=>
 if (cop .lss x150 r152)=true then
 if (cop .lss x150 (List.length x1:Int))=true then
 Zw (Ja E0 x117 104)<|
 Zi x1 x150 hs7 fun (r153:Qt12)=>
 (g30 r153.2.2.1 r153.2.2.2.1 r153.2.2.2.2.1 r153.2.2.2.2.2.1 r153.2.2.2.2.2.2.1 r153.2.2.2.2.2.2.2.1 r153.2.2.2.2.2.2.2.2.1 r153.2.2.2.2.2.2.2.2.2.1 r153.2.2.2.2.2.2.2.2.2.2.1 r153.2.2.2.2.2.2.2.2.2.2.2.1 (d4 (d8 r153))).bind fun (r166:Qt17)=>
 Zw (Ja x117 (E0++[[AV.val (.int .i64 r166.1),AV.val (.int .i64 r166.2.1),AV.val (.int .i64 r166.2.2.1),AV.slice false 3 r166.2.2.2.1,AV.val (.int .i64 r166.2.2.2.2.1),AV.val (.int .i64 r166.2.2.2.2.2.1),AV.val (.int .i64 r166.2.2.2.2.2.2.1),AV.val (.int .i64 r166.2.2.2.2.2.2.2.1),AV.val (.int .i64 r166.2.2.2.2.2.2.2.2.1),AV.val (.int .i64 r166.2.2.2.2.2.2.2.2.2.1),AV.val (.bool r166.2.2.2.2.2.2.2.2.2.2)]]) 104)<|
 Zbs k x0 x1 x2 x3 x4 x5 x6 x7 x8 x9 x10 x11 x12 x13 x14 x15 x16 x17 x18 x19 x20 x21 x22 x23 x24 x25 x26 x27 x28 x29 x30 x31 x32 x33 x34 x35 x36 x37 x38 x39 x40 x41 x42 x43 x44 x45 x46 x47 x48 x49 x50 x51 x52 x53 x54 x55 x56 x57 x58 x59 x60 x61 x62 x63 x64 x65 x66 x67 x68 x69 x70 x71 x72 x73 x74 x75 x76 x77 x78 x79 x80 x81 x82 x83 x84 x85 x86 x87 x88 x89 x90 x91 x92 x93 x94 x95 x96 x97 x98 x99 x100 x101 x102 x103 x104 x105 x106 x107 x108 x109 x110 x111 x112 x113 x114 x115 x116 (x117++(E0++[[AV.val (.int .i64 r166.1),AV.val (.int .i64 r166.2.1),AV.val (.int .i64 r166.2.2.1),AV.slice false 3 r166.2.2.2.1,AV.val (.int .i64 r166.2.2.2.2.1),AV.val (.int .i64 r166.2.2.2.2.2.1),AV.val (.int .i64 r166.2.2.2.2.2.2.1),AV.val (.int .i64 r166.2.2.2.2.2.2.2.1),AV.val (.int .i64 r166.2.2.2.2.2.2.2.2.1),AV.val (.int .i64 r166.2.2.2.2.2.2.2.2.2.1),AV.val (.bool r166.2.2.2.2.2.2.2.2.2.2)]])) x118 x119 x120 x121 x122 x123 x124 x125 x126 x127 x128 x129 x130 x131 x132 x133 x134 x135 x136 x137 x138 x139 x140 x141 x142 x143 x144 x145 x146 x147 x148 x149 (iop .add .i64 x150 1)
 else
 some (x76,x77,x78,x79,x80,x81,x82,x83,x84,x85,x86,x87,x88,x89,x90,x91,x92,x93,x94,x95,x96,x97,x98,x99,x100,x101,x102,x103,x104,x105,x106,x107,x108,x109,x110,x111,x112,x113,x114,x115,x116,x117,x118,x119,x120,x121,x122,x123,x124,x125,x126,x127,x128,x129,x130,x131,x132,x133,x134,x135,x136,x137,x138,x139,x140,x141,x142,x143,x144,x145,x146,x147,x148,x149)
 else
 some (x76,x77,x78,x79,x80,x81,x82,x83,x84,x85,x86,x87,x88,x89,x90,x91,x92,x93,x94,x95,x96,x97,x98,x99,x100,x101,x102,x103,x104,x105,x106,x107,x108,x109,x110,x111,x112,x113,x114,x115,x116,x117,x118,x119,x120,x121,x122,x123,x124,x125,x126,x127,x128,x129,x130,x131,x132,x133,x134,x135,x136,x137,x138,x139,x140,x141,x142,x143,x144,x145,x146,x147,x148,x149)):=by kernel_rfl
noncomputable def ZbN (k:Nat) (x0:LL) (x1 x2 x3 x4 x5 x6 x7 x8 x9 x10 x11:Int) (x12:Bool) (x13 x14 x15 x16 x17 x18 x19 x20 x21 x22 x23 x24 x25 x26 x27 x28 x29 x30 x31 x32:Int) (x33:LL) (x34 x35 x36 x37 x38 x39:Int) (x40:Bool) (x41 x42 x43 x44:LL) (x45 x46:Int) (x47 x48 x49 x50 x51 x52 x53 x54:LL) (x55 x56:Int) (x57 x58 x59 x60 x61 x62 x63 x64:LL) (x65:Bool) (x66:Int) (x67 x68 x69 x70 x71 x72 x73 x74:LL) (x75 x76 x77 x78 x79 x80 x81 x82 x83 x84 x85:Int) (x86:Bool) (x87 x88 x89 x90 x91 x92 x93 x94 x95 x96 x97 x98 x99 x100 x101 x102 x103 x104 x105 x106:Int) (x107:LL) (x108 x109 x110 x111 x112 x113:Int) (x114:Bool) (x115 x116 x117 x118:LL) (x119 x120:Int) (x121 x122 x123 x124 x125 x126 x127 x128:LL) (x129 x130:Int) (x131 x132 x133 x134 x135 x136 x137 x138:LL) (x139:Bool) (x140:Int) (x141 x142 x143 x144 x145 x146 x147 x148:LL) (x149:Int):Option (Qt2):=F11.lp [10,4,3,2,1,1,1,1,1,1,1,1,0,3] 0 r0 k [.l x0,.i x1,.i x2,.i x3,.i x4,.i x5,.i x6,.i x7,.i x8,.i x9,.i x10,.i x11,.b x12,.i x13,.i x14,.i x15,.i x16,.i x17,.i x18,.i x19,.i x20,.i x21,.i x22,.i x23,.i x24,.i x25,.i x26,.i x27,.i x28,.i x29,.i x30,.i x31,.i x32,.l x33,.i x34,.i x35,.i x36,.i x37,.i x38,.i x39,.b x40,.l x41,.l x42,.l x43,.l x44,.i x45,.i x46,.l x47,.l x48,.l x49,.l x50,.l x51,.l x52,.l x53,.l x54,.i x55,.i x56,.l x57,.l x58,.l x59,.l x60,.l x61,.l x62,.l x63,.l x64,.b x65,.i x66,.l x67,.l x68,.l x69,.l x70,.l x71,.l x72,.l x73,.l x74,.i x75,.i x76,.i x77,.i x78,.i x79,.i x80,.i x81,.i x82,.i x83,.i x84,.i x85,.b x86,.i x87,.i x88,.i x89,.i x90,.i x91,.i x92,.i x93,.i x94,.i x95,.i x96,.i x97,.i x98,.i x99,.i x100,.i x101,.i x102,.i x103,.i x104,.i x105,.i x106,.l x107,.i x108,.i x109,.i x110,.i x111,.i x112,.i x113,.b x114,.l x115,.l x116,.l x117,.l x118,.i x119,.i x120,.l x121,.l x122,.l x123,.l x124,.l x125,.l x126,.l x127,.l x128,.i x129,.i x130,.l x131,.l x132,.l x133,.l x134,.l x135,.l x136,.l x137,.l x138,.b x139,.i x140,.l x141,.l x142,.l x143,.l x144,.l x145,.l x146,.l x147,.l x148,.i x149]
theorem Zot (k:Nat) (x0:LL) (x1 x2 x3 x4 x5 x6 x7 x8 x9 x10 x11:Int) (x12:Bool) (x13 x14 x15 x16 x17 x18 x19 x20 x21 x22 x23 x24 x25 x26 x27 x28 x29 x30 x31 x32:Int) (x33:LL) (x34 x35 x36 x37 x38 x39:Int) (x40:Bool) (x41 x42 x43 x44:LL) (x45 x46:Int) (x47 x48 x49 x50 x51 x52 x53 x54:LL) (x55 x56:Int) (x57 x58 x59 x60 x61 x62 x63 x64:LL) (x65:Bool) (x66:Int) (x67 x68 x69 x70 x71 x72 x73 x74:LL) (x75 x76 x77 x78 x79 x80 x81 x82 x83 x84 x85:Int) (x86:Bool) (x87 x88 x89 x90 x91 x92 x93 x94 x95 x96 x97 x98 x99 x100 x101 x102 x103 x104 x105 x106:Int) (x107:LL) (x108 x109 x110 x111 x112 x113:Int) (x114:Bool) (x115 x116 x117 x118:LL) (x119 x120:Int) (x121 x122 x123 x124 x125 x126 x127 x128:LL) (x129 x130:Int) (x131 x132 x133 x134 x135 x136 x137 x138:LL) (x139:Bool) (x140:Int) (x141 x142 x143 x144 x145 x146 x147 x148:LL) (x149:Int):ZbN (k+1) x0 x1 x2 x3 x4 x5 x6 x7 x8 x9 x10 x11 x12 x13 x14 x15 x16 x17 x18 x19 x20 x21 x22 x23 x24 x25 x26 x27 x28 x29 x30 x31 x32 x33 x34 x35 x36 x37 x38 x39 x40 x41 x42 x43 x44 x45 x46 x47 x48 x49 x50 x51 x52 x53 x54 x55 x56 x57 x58 x59 x60 x61 x62 x63 x64 x65 x66 x67 x68 x69 x70 x71 x72 x73 x74 x75 x76 x77 x78 x79 x80 x81 x82 x83 x84 x85 x86 x87 x88 x89 x90 x91 x92 x93 x94 x95 x96 x97 x98 x99 x100 x101 x102 x103 x104 x105 x106 x107 x108 x109 x110 x111 x112 x113 x114 x115 x116 x117 x118 x119 x120 x121 x122 x123 x124 x125 x126 x127 x128 x129 x130 x131 x132 x133 x134 x135 x136 x137 x138 x139 x140 x141 x142 x143 x144 x145 x146 x147 x148 x149 =
 ((g25 x0 7).bind fun (r150:Int)=>
 (g9 r150 3).bind fun (r151:Int)=>
 if (cop .lss x149 r151)=true then
 Zw (Ja E0 x118 16)<|
 (g25 x0 (iop .add .i64 8 x149)).bind fun (r152:Int)=>
 (g9 r152 3).bind fun (r153:Int)=>
 (g25 x0 (iop .add .i64 9 x149)).bind fun (r154:Int)=>
 (g9 r154 4).bind fun (r155:Int)=>
 Zw (Ja x118 (E0++[[AV.val (.int .i64 r153),AV.val (.int .i64 r155)]]) 16)<|
 ZbN k x0 x1 x2 x3 x4 x5 x6 x7 x8 x9 x10 x11 x12 x13 x14 x15 x16 x17 x18 x19 x20 x21 x22 x23 x24 x25 x26 x27 x28 x29 x30 x31 x32 x33 x34 x35 x36 x37 x38 x39 x40 x41 x42 x43 x44 x45 x46 x47 x48 x49 x50 x51 x52 x53 x54 x55 x56 x57 x58 x59 x60 x61 x62 x63 x64 x65 x66 x67 x68 x69 x70 x71 x72 x73 x74 x75 x76 x77 x78 x79 x80 x81 x82 x83 x84 x85 x86 x87 x88 x89 x90 x91 x92 x93 x94 x95 x96 x97 x98 x99 x100 x101 x102 x103 x104 x105 x106 x107 x108 x109 x110 x111 x112 x113 x114 x115 x116 x117 (x118++(E0++[[AV.val (.int .i64 r153),AV.val (.int .i64 r155)]])) x119 x120 x121 x122 x123 x124 x125 x126 x127 x128 x129 x130 x131 x132 x133 x134 x135 x136 x137 x138 x139 x140 x141 x142 x143 x144 x145 x146 x147 x148 (iop .add .i64 x149 1)
 else
 some (x75,x76,x77,x78,x79,x80,x81,x82,x83,x84,x85,x86,x87,x88,x89,x90,x91,x92,x93,x94,x95,x96,x97,x98,x99,x100,x101,x102,x103,x104,x105,x106,x107,x108,x109,x110,x111,x112,x113,x114,x115,x116,x117,x118,x119,x120,x121,x122,x123,x124,x125,x126,x127,x128,x129,x130,x131,x132,x133,x134,x135,x136,x137,x138,x139,x140,x141,x142,x143,x144,x145,x146,x147,x148)):=by kernel_rfl
theorem ZuE (x0:Int) (x1 x2:LL):g11 x0 x1 x2 =
 ((g9 x0 17).bind fun (r3:Int)=>
 (g25 x1 0).bind fun (r4:Int)=>
 (g9 r4 70).bind fun (r5:Int)=>
 (g25 x1 1).bind fun (r6:Int)=>
 (g9 r6 4).bind fun (r7:Int)=>
 (g25 x1 2).bind fun (r8:Int)=>
 (g9 r8 4).bind fun (r9:Int)=>
 (g25 x1 3).bind fun (r10:Int)=>
 (g26 r10).bind fun (r11:Int×Int×Int)=>
 if (cop .gtr (List.length x2:Int) 0)=true then
 (g25 x1 3).bind fun (r14:Int)=>
 (g9 r14 (List.length x2:Int)).bind fun (r15:Int)=>
 Zi x2 r15 hs7 fun (r16:Qt12)=>
 if (cop .leq (iop .add .i64 1 r3) 11)=true then
 (g25 x1 4).bind fun (r29:Int)=>
 (g9 r29 3).bind fun (r30:Int)=>
 if (cop .neq (iop .add .i64 1 r3) 1)=true then
 (g25 x1 5).bind fun (r31:Int)=>
 (g26 r31).bind fun (r32:Int×Int×Int)=>
 if (cop .eql (iop .add .i64 1 r3) 1)=true then
 (g28 x1 5).bind fun (r35:LL)=>
 (g27 r35 r16.2.2.1 r16.2.2.2.1 r16.2.2.2.2.1 r16.2.2.2.2.2.1 r16.2.2.2.2.2.2.1 r16.2.2.2.2.2.2.2.1 r16.2.2.2.2.2.2.2.2.1 r16.2.2.2.2.2.2.2.2.2.1 r16.2.2.2.2.2.2.2.2.2.2.1 r16.2.2.2.2.2.2.2.2.2.2.2.1 (d4 (d8 r16))).bind fun (r36:Qt5)=>
 some ((iop .add .i64 1 r3),r5,r7,r9,0,r30,0,r32.1,r32.2.1,r32.2.2,0,false,r36.1,r36.2.1,r36.2.2.1,r36.2.2.2.1,r36.2.2.2.2.1,r36.2.2.2.2.2.1,r36.2.2.2.2.2.2.1,r36.2.2.2.2.2.2.2.1,r36.2.2.2.2.2.2.2.2.1,r36.2.2.2.2.2.2.2.2.2.1,r36.2.2.2.2.2.2.2.2.2.2.1,r36.2.2.2.2.2.2.2.2.2.2.2.1,(d4 (d8 r36)).1,(d4 (d8 r36)).2.1,(d2 (d4 (d8 r36))).1,(d2 (d4 (d8 r36))).2.1,(d16 r36).1,(d16 r36).2.1,(d2 (d16 r36)).1,(d2 (d16 r36)).2.1,(d4 (d16 r36)).1,(d4 (d16 r36)).2.1,(d2 (d4 (d16 r36))).1,(d2 (d4 (d16 r36))).2.1,(d8 (d16 r36)).1,(d8 (d16 r36)).2.1,(d2 (d8 (d16 r36))).1,(d2 (d8 (d16 r36))).2,E0,E0,E0,E0,0,0,E0,E0,E0,E0,E0,E0,E0,E0,0,0,E0,E0,E0,E0,E0,E0,E0,E0,false,0,E0,E0,E0,E0,E0,E0,E0,E0)
 else
 if (cop .eql (iop .add .i64 1 r3) 2)=true then
 (g25 x1 6).bind fun (r35:Int)=>
 (g9 r35 20).bind fun (r36:Int)=>
 (g25 x1 7).bind fun (r37:Int)=>
 (g9 r37 2).bind fun (r38:Int)=>
 Zbs Zx x1 x2 0 0 0 0 0 0 0 0 0 0 0 false 0 0 0 0 0 0 0 0 0 0 0 0 0 0 0 0 0 0 0 0 E0 0 0 0 0 0 0 false E0 E0 E0 E0 0 0 E0 E0 E0 E0 E0 E0 E0 E0 0 0 E0 E0 E0 E0 E0 E0 E0 E0 false 0 E0 E0 E0 E0 E0 E0 E0 E0 (iop .add .i64 1 r3) r5 r7 r9 0 r30 0 r32.1 r32.2.1 r32.2.2 r36 (cop .eql r38 1) 0 0 0 0 0 0 0 0 0 0 0 0 0 0 0 0 0 0 0 0 E0 0 0 0 0 0 0 false E0 E0 E0 E0 0 0 E0 E0 E0 E0 E0 E0 E0 E0 0 0 E0 E0 E0 E0 E0 E0 E0 E0 false 0 E0 E0 E0 E0 E0 E0 E0 E0 0
 else
 if (cop .eql (iop .add .i64 1 r3) 4)=true then
 (g25 x1 6).bind fun (r35:Int)=>
 (g9 r35 12).bind fun (r36:Int)=>
 (g30 r16.2.2.1 r16.2.2.2.1 r16.2.2.2.2.1 r16.2.2.2.2.2.1 r16.2.2.2.2.2.2.1 r16.2.2.2.2.2.2.2.1 r16.2.2.2.2.2.2.2.2.1 r16.2.2.2.2.2.2.2.2.2.1 r16.2.2.2.2.2.2.2.2.2.2.1 r16.2.2.2.2.2.2.2.2.2.2.2.1 (d4 (d8 r16))).bind fun (r37:Qt17)=>
 some ((iop .add .i64 1 r3),r5,r7,r9,0,r30,r36,r32.1,r32.2.1,r32.2.2,0,false,0,0,0,0,0,0,0,0,0,0,0,0,0,0,0,0,0,0,0,0,E0,0,0,0,0,0,0,false,E0,(E0++[[AV.val (.int .i64 r37.1),AV.val (.int .i64 r37.2.1),AV.val (.int .i64 r37.2.2.1),AV.slice false 3 r37.2.2.2.1,AV.val (.int .i64 r37.2.2.2.2.1),AV.val (.int .i64 r37.2.2.2.2.2.1),AV.val (.int .i64 r37.2.2.2.2.2.2.1),AV.val (.int .i64 r37.2.2.2.2.2.2.2.1),AV.val (.int .i64 r37.2.2.2.2.2.2.2.2.1),AV.val (.int .i64 r37.2.2.2.2.2.2.2.2.2.1),AV.val (.bool r37.2.2.2.2.2.2.2.2.2.2)]]),E0,E0,0,0,E0,E0,E0,E0,E0,E0,E0,E0,0,0,E0,E0,E0,E0,E0,E0,E0,E0,false,0,E0,E0,E0,E0,E0,E0,E0,E0)
 else
 if (cop .eql (iop .add .i64 1 r3) 5)=true then
 (g25 x1 6).bind fun (r35:Int)=>
 (g9 r35 20).bind fun (r36:Int)=>
 some ((iop .add .i64 1 r3),r5,r7,r9,0,r30,0,r32.1,r32.2.1,r32.2.2,r36,false,0,0,0,0,0,0,0,0,0,0,0,0,0,0,0,0,0,0,0,0,E0,0,0,0,0,0,0,false,E0,E0,E0,E0,0,0,E0,E0,E0,E0,E0,E0,E0,E0,0,0,E0,E0,E0,E0,E0,E0,E0,E0,false,0,E0,E0,E0,E0,E0,E0,E0,E0)
 else
 if (cop .eql (iop .add .i64 1 r3) 6)=true then
 (g28 x1 6).bind fun (r35:LL)=>
 (g31 r35).bind fun (r36:LL)=>
 some ((iop .add .i64 1 r3),r5,r7,r9,0,r30,0,r32.1,r32.2.1,r32.2.2,0,false,0,0,0,0,0,0,0,0,0,0,0,0,0,0,0,0,0,0,0,0,E0,0,0,0,0,0,0,false,r36,E0,E0,E0,0,0,E0,E0,E0,E0,E0,E0,E0,E0,0,0,E0,E0,E0,E0,E0,E0,E0,E0,false,0,E0,E0,E0,E0,E0,E0,E0,E0)
 else
 if (cop .eql (iop .add .i64 1 r3) 12)=true then
 (g25 x1 6).bind fun (r35:Int)=>
 (g32 r35).bind fun (r36:LL)=>
 some ((iop .add .i64 1 r3),r5,r7,r9,0,r30,0,r32.1,r32.2.1,r32.2.2,0,false,0,0,0,0,0,0,0,0,0,0,0,0,0,0,0,0,0,0,0,0,E0,0,0,0,0,0,0,false,E0,E0,r36,E0,0,0,E0,E0,E0,E0,E0,E0,E0,E0,0,0,E0,E0,E0,E0,E0,E0,E0,E0,false,0,E0,E0,E0,E0,E0,E0,E0,E0)
 else
 if (cop .eql (iop .add .i64 1 r3) 13)=true then
 (g28 x1 6).bind fun (r35:LL)=>
 (g33 r35 x2).bind fun (r36:Qt10)=>
 some ((iop .add .i64 1 r3),r5,r7,r9,0,r30,0,r32.1,r32.2.1,r32.2.2,0,false,0,0,0,0,0,0,0,0,0,0,0,0,0,0,0,0,0,0,0,0,E0,0,0,0,0,0,0,false,E0,E0,E0,E0,0,0,E0,E0,E0,E0,E0,E0,E0,E0,r36.1,r36.2.1,r36.2.2.1,r36.2.2.2.1,r36.2.2.2.2.1,r36.2.2.2.2.2.1,r36.2.2.2.2.2.2.1,r36.2.2.2.2.2.2.2.1,r36.2.2.2.2.2.2.2.2.1,r36.2.2.2.2.2.2.2.2.2.1,r36.2.2.2.2.2.2.2.2.2.2.1,r36.2.2.2.2.2.2.2.2.2.2.2.1,(d4 (d8 r36)).1,(d4 (d8 r36)).2.1,(d2 (d4 (d8 r36))).1,(d2 (d4 (d8 r36))).2.1,(d16 r36).1,(d16 r36).2.1,(d2 (d16 r36)).1,(d2 (d16 r36)).2)
 else
 if (cop .eql (iop .add .i64 1 r3) 14)=true then
 (g25 x1 5).bind fun (r35:Int)=>
 (g9 r35 70).bind fun (r36:Int)=>
 (g25 x1 6).bind fun (r37:Int)=>
 (g32 r37).bind fun (r38:LL)=>
 (g28 x1 7).bind fun (r39:LL)=>
 (g34 r39).bind fun (r40:Int×LL×LL)=>
 (g28 x1 8).bind fun (r43:LL)=>
 (g25 x1 9).bind fun (r44:Int)=>
 (g9 r44 4).bind fun (r45:Int)=>
 (g10 r43 x2 r45).bind fun (r46:Qt19)=>
 some ((iop .add .i64 1 r3),r5,r7,r9,0,r30,0,r32.1,r32.2.1,r32.2.2,0,false,0,0,0,0,0,0,0,0,0,0,0,0,0,0,0,0,0,0,0,0,E0,0,0,0,0,0,0,false,E0,E0,r38,E0,r36,r40.1,r40.2.1,r40.2.2,r46.1,r46.2.1,r46.2.2.1,r46.2.2.2.1,r46.2.2.2.2.1,r46.2.2.2.2.2,0,0,E0,E0,E0,E0,E0,E0,E0,E0,false,0,E0,E0,E0,E0,E0,E0,E0,E0)
 else
 if (cop .eql (iop .add .i64 1 r3) 17)=true then
 (g25 x1 6).bind fun (r35:Int)=>
 (g32 r35).bind fun (r36:LL)=>
 ZbN Zx x1 0 0 0 0 0 0 0 0 0 0 0 false 0 0 0 0 0 0 0 0 0 0 0 0 0 0 0 0 0 0 0 0 E0 0 0 0 0 0 0 false E0 E0 E0 E0 0 0 E0 E0 E0 E0 E0 E0 E0 E0 0 0 E0 E0 E0 E0 E0 E0 E0 E0 false 0 E0 E0 E0 E0 E0 E0 E0 E0 (iop .add .i64 1 r3) r5 r7 r9 0 r30 0 r32.1 r32.2.1 r32.2.2 0 false 0 0 0 0 0 0 0 0 0 0 0 0 0 0 0 0 0 0 0 0 E0 0 0 0 0 0 0 false E0 E0 r36 E0 0 0 E0 E0 E0 E0 E0 E0 E0 E0 0 0 E0 E0 E0 E0 E0 E0 E0 E0 false 0 E0 E0 E0 E0 E0 E0 E0 E0 0
 else
 some ((iop .add .i64 1 r3),r5,r7,r9,0,r30,0,r32.1,r32.2.1,r32.2.2,0,false,0,0,0,0,0,0,0,0,0,0,0,0,0,0,0,0,0,0,0,0,E0,0,0,0,0,0,0,false,E0,E0,E0,E0,0,0,E0,E0,E0,E0,E0,E0,E0,E0,0,0,E0,E0,E0,E0,E0,E0,E0,E0,false,0,E0,E0,E0,E0,E0,E0,E0,E0)
 else
 if (cop .eql (iop .add .i64 1 r3) 1)=true then
 (g28 x1 5).bind fun (r31:LL)=>
 (g27 r31 r16.2.2.1 r16.2.2.2.1 r16.2.2.2.2.1 r16.2.2.2.2.2.1 r16.2.2.2.2.2.2.1 r16.2.2.2.2.2.2.2.1 r16.2.2.2.2.2.2.2.2.1 r16.2.2.2.2.2.2.2.2.2.1 r16.2.2.2.2.2.2.2.2.2.2.1 r16.2.2.2.2.2.2.2.2.2.2.2.1 (d4 (d8 r16))).bind fun (r32:Qt5)=>
 some ((iop .add .i64 1 r3),r5,r7,r9,0,r30,0,0,0,0,0,false,r32.1,r32.2.1,r32.2.2.1,r32.2.2.2.1,r32.2.2.2.2.1,r32.2.2.2.2.2.1,r32.2.2.2.2.2.2.1,r32.2.2.2.2.2.2.2.1,r32.2.2.2.2.2.2.2.2.1,r32.2.2.2.2.2.2.2.2.2.1,r32.2.2.2.2.2.2.2.2.2.2.1,r32.2.2.2.2.2.2.2.2.2.2.2.1,(d4 (d8 r32)).1,(d4 (d8 r32)).2.1,(d2 (d4 (d8 r32))).1,(d2 (d4 (d8 r32))).2.1,(d16 r32).1,(d16 r32).2.1,(d2 (d16 r32)).1,(d2 (d16 r32)).2.1,(d4 (d16 r32)).1,(d4 (d16 r32)).2.1,(d2 (d4 (d16 r32))).1,(d2 (d4 (d16 r32))).2.1,(d8 (d16 r32)).1,(d8 (d16 r32)).2.1,(d2 (d8 (d16 r32))).1,(d2 (d8 (d16 r32))).2,E0,E0,E0,E0,0,0,E0,E0,E0,E0,E0,E0,E0,E0,0,0,E0,E0,E0,E0,E0,E0,E0,E0,false,0,E0,E0,E0,E0,E0,E0,E0,E0)
 else
 if (cop .eql (iop .add .i64 1 r3) 2)=true then
 (g25 x1 6).bind fun (r31:Int)=>
 (g9 r31 20).bind fun (r32:Int)=>
 (g25 x1 7).bind fun (r33:Int)=>
 (g9 r33 2).bind fun (r34:Int)=>
 Zbs Zx x1 x2 0 0 0 0 0 0 0 0 0 0 0 false 0 0 0 0 0 0 0 0 0 0 0 0 0 0 0 0 0 0 0 0 E0 0 0 0 0 0 0 false E0 E0 E0 E0 0 0 E0 E0 E0 E0 E0 E0 E0 E0 0 0 E0 E0 E0 E0 E0 E0 E0 E0 false 0 E0 E0 E0 E0 E0 E0 E0 E0 (iop .add .i64 1 r3) r5 r7 r9 0 r30 0 0 0 0 r32 (cop .eql r34 1) 0 0 0 0 0 0 0 0 0 0 0 0 0 0 0 0 0 0 0 0 E0 0 0 0 0 0 0 false E0 E0 E0 E0 0 0 E0 E0 E0 E0 E0 E0 E0 E0 0 0 E0 E0 E0 E0 E0 E0 E0 E0 false 0 E0 E0 E0 E0 E0 E0 E0 E0 0
 else
 if (cop .eql (iop .add .i64 1 r3) 4)=true then
 (g25 x1 6).bind fun (r31:Int)=>
 (g9 r31 12).bind fun (r32:Int)=>
 (g30 r16.2.2.1 r16.2.2.2.1 r16.2.2.2.2.1 r16.2.2.2.2.2.1 r16.2.2.2.2.2.2.1 r16.2.2.2.2.2.2.2.1 r16.2.2.2.2.2.2.2.2.1 r16.2.2.2.2.2.2.2.2.2.1 r16.2.2.2.2.2.2.2.2.2.2.1 r16.2.2.2.2.2.2.2.2.2.2.2.1 (d4 (d8 r16))).bind fun (r33:Qt17)=>
 some ((iop .add .i64 1 r3),r5,r7,r9,0,r30,r32,0,0,0,0,false,0,0,0,0,0,0,0,0,0,0,0,0,0,0,0,0,0,0,0,0,E0,0,0,0,0,0,0,false,E0,(E0++[[AV.val (.int .i64 r33.1),AV.val (.int .i64 r33.2.1),AV.val (.int .i64 r33.2.2.1),AV.slice false 3 r33.2.2.2.1,AV.val (.int .i64 r33.2.2.2.2.1),AV.val (.int .i64 r33.2.2.2.2.2.1),AV.val (.int .i64 r33.2.2.2.2.2.2.1),AV.val (.int .i64 r33.2.2.2.2.2.2.2.1),AV.val (.int .i64 r33.2.2.2.2.2.2.2.2.1),AV.val (.int .i64 r33.2.2.2.2.2.2.2.2.2.1),AV.val (.bool r33.2.2.2.2.2.2.2.2.2.2)]]),E0,E0,0,0,E0,E0,E0,E0,E0,E0,E0,E0,0,0,E0,E0,E0,E0,E0,E0,E0,E0,false,0,E0,E0,E0,E0,E0,E0,E0,E0)
 else
 if (cop .eql (iop .add .i64 1 r3) 5)=true then
 (g25 x1 6).bind fun (r31:Int)=>
 (g9 r31 20).bind fun (r32:Int)=>
 some ((iop .add .i64 1 r3),r5,r7,r9,0,r30,0,0,0,0,r32,false,0,0,0,0,0,0,0,0,0,0,0,0,0,0,0,0,0,0,0,0,E0,0,0,0,0,0,0,false,E0,E0,E0,E0,0,0,E0,E0,E0,E0,E0,E0,E0,E0,0,0,E0,E0,E0,E0,E0,E0,E0,E0,false,0,E0,E0,E0,E0,E0,E0,E0,E0)
 else
 if (cop .eql (iop .add .i64 1 r3) 6)=true then
 (g28 x1 6).bind fun (r31:LL)=>
 (g31 r31).bind fun (r32:LL)=>
 some ((iop .add .i64 1 r3),r5,r7,r9,0,r30,0,0,0,0,0,false,0,0,0,0,0,0,0,0,0,0,0,0,0,0,0,0,0,0,0,0,E0,0,0,0,0,0,0,false,r32,E0,E0,E0,0,0,E0,E0,E0,E0,E0,E0,E0,E0,0,0,E0,E0,E0,E0,E0,E0,E0,E0,false,0,E0,E0,E0,E0,E0,E0,E0,E0)
 else
 if (cop .eql (iop .add .i64 1 r3) 12)=true then
 (g25 x1 6).bind fun (r31:Int)=>
 (g32 r31).bind fun (r32:LL)=>
 some ((iop .add .i64 1 r3),r5,r7,r9,0,r30,0,0,0,0,0,false,0,0,0,0,0,0,0,0,0,0,0,0,0,0,0,0,0,0,0,0,E0,0,0,0,0,0,0,false,E0,E0,r32,E0,0,0,E0,E0,E0,E0,E0,E0,E0,E0,0,0,E0,E0,E0,E0,E0,E0,E0,E0,false,0,E0,E0,E0,E0,E0,E0,E0,E0)
 else
 if (cop .eql (iop .add .i64 1 r3) 13)=true then
 (g28 x1 6).bind fun (r31:LL)=>
 (g33 r31 x2).bind fun (r32:Qt10)=>
 some ((iop .add .i64 1 r3),r5,r7,r9,0,r30,0,0,0,0,0,false,0,0,0,0,0,0,0,0,0,0,0,0,0,0,0,0,0,0,0,0,E0,0,0,0,0,0,0,false,E0,E0,E0,E0,0,0,E0,E0,E0,E0,E0,E0,E0,E0,r32.1,r32.2.1,r32.2.2.1,r32.2.2.2.1,r32.2.2.2.2.1,r32.2.2.2.2.2.1,r32.2.2.2.2.2.2.1,r32.2.2.2.2.2.2.2.1,r32.2.2.2.2.2.2.2.2.1,r32.2.2.2.2.2.2.2.2.2.1,r32.2.2.2.2.2.2.2.2.2.2.1,r32.2.2.2.2.2.2.2.2.2.2.2.1,(d4 (d8 r32)).1,(d4 (d8 r32)).2.1,(d2 (d4 (d8 r32))).1,(d2 (d4 (d8 r32))).2.1,(d16 r32).1,(d16 r32).2.1,(d2 (d16 r32)).1,(d2 (d16 r32)).2)
 else
 if (cop .eql (iop .add .i64 1 r3) 14)=true then
 (g25 x1 5).bind fun (r31:Int)=>
 (g9 r31 70).bind fun (r32:Int)=>
 (g25 x1 6).bind fun (r33:Int)=>
 (g32 r33).bind fun (r34:LL)=>
 (g28 x1 7).bind fun (r35:LL)=>
 (g34 r35).bind fun (r36:Int×LL×LL)=>
 (g28 x1 8).bind fun (r39:LL)=>
 (g25 x1 9).bind fun (r40:Int)=>
 (g9 r40 4).bind fun (r41:Int)=>
 (g10 r39 x2 r41).bind fun (r42:Qt19)=>
 some ((iop .add .i64 1 r3),r5,r7,r9,0,r30,0,0,0,0,0,false,0,0,0,0,0,0,0,0,0,0,0,0,0,0,0,0,0,0,0,0,E0,0,0,0,0,0,0,false,E0,E0,r34,E0,r32,r36.1,r36.2.1,r36.2.2,r42.1,r42.2.1,r42.2.2.1,r42.2.2.2.1,r42.2.2.2.2.1,r42.2.2.2.2.2,0,0,E0,E0,E0,E0,E0,E0,E0,E0,false,0,E0,E0,E0,E0,E0,E0,E0,E0)
 else
 if (cop .eql (iop .add .i64 1 r3) 17)=true then
 (g25 x1 6).bind fun (r31:Int)=>
 (g32 r31).bind fun (r32:LL)=>
 ZbN Zx x1 0 0 0 0 0 0 0 0 0 0 0 false 0 0 0 0 0 0 0 0 0 0 0 0 0 0 0 0 0 0 0 0 E0 0 0 0 0 0 0 false E0 E0 E0 E0 0 0 E0 E0 E0 E0 E0 E0 E0 E0 0 0 E0 E0 E0 E0 E0 E0 E0 E0 false 0 E0 E0 E0 E0 E0 E0 E0 E0 (iop .add .i64 1 r3) r5 r7 r9 0 r30 0 0 0 0 0 false 0 0 0 0 0 0 0 0 0 0 0 0 0 0 0 0 0 0 0 0 E0 0 0 0 0 0 0 false E0 E0 r32 E0 0 0 E0 E0 E0 E0 E0 E0 E0 E0 0 0 E0 E0 E0 E0 E0 E0 E0 E0 false 0 E0 E0 E0 E0 E0 E0 E0 E0 0
 else
 some ((iop .add .i64 1 r3),r5,r7,r9,0,r30,0,0,0,0,0,false,0,0,0,0,0,0,0,0,0,0,0,0,0,0,0,0,0,0,0,0,E0,0,0,0,0,0,0,false,E0,E0,E0,E0,0,0,E0,E0,E0,E0,E0,E0,E0,E0,0,0,E0,E0,E0,E0,E0,E0,E0,E0,false,0,E0,E0,E0,E0,E0,E0,E0,E0)
 else
 if (cop .lss (iop .add .i64 1 r3) 17)=true then
 (g25 x1 4).bind fun (r29:Int)=>
 (g9 r29 5).bind fun (r30:Int)=>
 if (cop .eql (iop .add .i64 1 r3) 1)=true then
 (g28 x1 5).bind fun (r31:LL)=>
 (g27 r31 r16.2.2.1 r16.2.2.2.1 r16.2.2.2.2.1 r16.2.2.2.2.2.1 r16.2.2.2.2.2.2.1 r16.2.2.2.2.2.2.2.1 r16.2.2.2.2.2.2.2.2.1 r16.2.2.2.2.2.2.2.2.2.1 r16.2.2.2.2.2.2.2.2.2.2.1 r16.2.2.2.2.2.2.2.2.2.2.2.1 (d4 (d8 r16))).bind fun (r32:Qt5)=>
 some ((iop .add .i64 1 r3),r5,r7,r9,r30,0,0,0,0,0,0,false,r32.1,r32.2.1,r32.2.2.1,r32.2.2.2.1,r32.2.2.2.2.1,r32.2.2.2.2.2.1,r32.2.2.2.2.2.2.1,r32.2.2.2.2.2.2.2.1,r32.2.2.2.2.2.2.2.2.1,r32.2.2.2.2.2.2.2.2.2.1,r32.2.2.2.2.2.2.2.2.2.2.1,r32.2.2.2.2.2.2.2.2.2.2.2.1,(d4 (d8 r32)).1,(d4 (d8 r32)).2.1,(d2 (d4 (d8 r32))).1,(d2 (d4 (d8 r32))).2.1,(d16 r32).1,(d16 r32).2.1,(d2 (d16 r32)).1,(d2 (d16 r32)).2.1,(d4 (d16 r32)).1,(d4 (d16 r32)).2.1,(d2 (d4 (d16 r32))).1,(d2 (d4 (d16 r32))).2.1,(d8 (d16 r32)).1,(d8 (d16 r32)).2.1,(d2 (d8 (d16 r32))).1,(d2 (d8 (d16 r32))).2,E0,E0,E0,E0,0,0,E0,E0,E0,E0,E0,E0,E0,E0,0,0,E0,E0,E0,E0,E0,E0,E0,E0,false,0,E0,E0,E0,E0,E0,E0,E0,E0)
 else
 if (cop .eql (iop .add .i64 1 r3) 2)=true then
 (g25 x1 6).bind fun (r31:Int)=>
 (g9 r31 20).bind fun (r32:Int)=>
 (g25 x1 7).bind fun (r33:Int)=>
 (g9 r33 2).bind fun (r34:Int)=>
 Zbs Zx x1 x2 0 0 0 0 0 0 0 0 0 0 0 false 0 0 0 0 0 0 0 0 0 0 0 0 0 0 0 0 0 0 0 0 E0 0 0 0 0 0 0 false E0 E0 E0 E0 0 0 E0 E0 E0 E0 E0 E0 E0 E0 0 0 E0 E0 E0 E0 E0 E0 E0 E0 false 0 E0 E0 E0 E0 E0 E0 E0 E0 (iop .add .i64 1 r3) r5 r7 r9 r30 0 0 0 0 0 r32 (cop .eql r34 1) 0 0 0 0 0 0 0 0 0 0 0 0 0 0 0 0 0 0 0 0 E0 0 0 0 0 0 0 false E0 E0 E0 E0 0 0 E0 E0 E0 E0 E0 E0 E0 E0 0 0 E0 E0 E0 E0 E0 E0 E0 E0 false 0 E0 E0 E0 E0 E0 E0 E0 E0 0
 else
 if (cop .eql (iop .add .i64 1 r3) 4)=true then
 (g25 x1 6).bind fun (r31:Int)=>
 (g9 r31 12).bind fun (r32:Int)=>
 (g30 r16.2.2.1 r16.2.2.2.1 r16.2.2.2.2.1 r16.2.2.2.2.2.1 r16.2.2.2.2.2.2.1 r16.2.2.2.2.2.2.2.1 r16.2.2.2.2.2.2.2.2.1 r16.2.2.2.2.2.2.2.2.2.1 r16.2.2.2.2.2.2.2.2.2.2.1 r16.2.2.2.2.2.2.2.2.2.2.2.1 (d4 (d8 r16))).bind fun (r33:Qt17)=>
 some ((iop .add .i64 1 r3),r5,r7,r9,r30,0,r32,0,0,0,0,false,0,0,0,0,0,0,0,0,0,0,0,0,0,0,0,0,0,0,0,0,E0,0,0,0,0,0,0,false,E0,(E0++[[AV.val (.int .i64 r33.1),AV.val (.int .i64 r33.2.1),AV.val (.int .i64 r33.2.2.1),AV.slice false 3 r33.2.2.2.1,AV.val (.int .i64 r33.2.2.2.2.1),AV.val (.int .i64 r33.2.2.2.2.2.1),AV.val (.int .i64 r33.2.2.2.2.2.2.1),AV.val (.int .i64 r33.2.2.2.2.2.2.2.1),AV.val (.int .i64 r33.2.2.2.2.2.2.2.2.1),AV.val (.int .i64 r33.2.2.2.2.2.2.2.2.2.1),AV.val (.bool r33.2.2.2.2.2.2.2.2.2.2)]]),E0,E0,0,0,E0,E0,E0,E0,E0,E0,E0,E0,0,0,E0,E0,E0,E0,E0,E0,E0,E0,false,0,E0,E0,E0,E0,E0,E0,E0,E0)
 else
 if (cop .eql (iop .add .i64 1 r3) 5)=true then
 (g25 x1 6).bind fun (r31:Int)=>
 (g9 r31 20).bind fun (r32:Int)=>
 some ((iop .add .i64 1 r3),r5,r7,r9,r30,0,0,0,0,0,r32,false,0,0,0,0,0,0,0,0,0,0,0,0,0,0,0,0,0,0,0,0,E0,0,0,0,0,0,0,false,E0,E0,E0,E0,0,0,E0,E0,E0,E0,E0,E0,E0,E0,0,0,E0,E0,E0,E0,E0,E0,E0,E0,false,0,E0,E0,E0,E0,E0,E0,E0,E0)
 else
 if (cop .eql (iop .add .i64 1 r3) 6)=true then
 (g28 x1 6).bind fun (r31:LL)=>
 (g31 r31).bind fun (r32:LL)=>
 some ((iop .add .i64 1 r3),r5,r7,r9,r30,0,0,0,0,0,0,false,0,0,0,0,0,0,0,0,0,0,0,0,0,0,0,0,0,0,0,0,E0,0,0,0,0,0,0,false,r32,E0,E0,E0,0,0,E0,E0,E0,E0,E0,E0,E0,E0,0,0,E0,E0,E0,E0,E0,E0,E0,E0,false,0,E0,E0,E0,E0,E0,E0,E0,E0)
 else
 if (cop .eql (iop .add .i64 1 r3) 12)=true then
 (g25 x1 6).bind fun (r31:Int)=>
 (g32 r31).bind fun (r32:LL)=>
 some ((iop .add .i64 1 r3),r5,r7,r9,r30,0,0,0,0,0,0,false,0,0,0,0,0,0,0,0,0,0,0,0,0,0,0,0,0,0,0,0,E0,0,0,0,0,0,0,false,E0,E0,r32,E0,0,0,E0,E0,E0,E0,E0,E0,E0,E0,0,0,E0,E0,E0,E0,E0,E0,E0,E0,false,0,E0,E0,E0,E0,E0,E0,E0,E0)
 else
 if (cop .eql (iop .add .i64 1 r3) 13)=true then
 (g28 x1 6).bind fun (r31:LL)=>
 (g33 r31 x2).bind fun (r32:Qt10)=>
 some ((iop .add .i64 1 r3),r5,r7,r9,r30,0,0,0,0,0,0,false,0,0,0,0,0,0,0,0,0,0,0,0,0,0,0,0,0,0,0,0,E0,0,0,0,0,0,0,false,E0,E0,E0,E0,0,0,E0,E0,E0,E0,E0,E0,E0,E0,r32.1,r32.2.1,r32.2.2.1,r32.2.2.2.1,r32.2.2.2.2.1,r32.2.2.2.2.2.1,r32.2.2.2.2.2.2.1,r32.2.2.2.2.2.2.2.1,r32.2.2.2.2.2.2.2.2.1,r32.2.2.2.2.2.2.2.2.2.1,r32.2.2.2.2.2.2.2.2.2.2.1,r32.2.2.2.2.2.2.2.2.2.2.2.1,(d4 (d8 r32)).1,(d4 (d8 r32)).2.1,(d2 (d4 (d8 r32))).1,(d2 (d4 (d8 r32))).2.1,(d16 r32).1,(d16 r32).2.1,(d2 (d16 r32)).1,(d2 (d16 r32)).2)
 else
 if (cop .eql (iop .add .i64 1 r3) 14)=true then
 (g25 x1 5).bind fun (r31:Int)=>
 (g9 r31 70).bind fun (r32:Int)=>
 (g25 x1 6).bind fun (r33:Int)=>
 (g32 r33).bind fun (r34:LL)=>
 (g28 x1 7).bind fun (r35:LL)=>
 (g34 r35).bind fun (r36:Int×LL×LL)=>
 (g28 x1 8).bind fun (r39:LL)=>
 (g25 x1 9).bind fun (r40:Int)=>
 (g9 r40 4).bind fun (r41:Int)=>
 (g10 r39 x2 r41).bind fun (r42:Qt19)=>
 some ((iop .add .i64 1 r3),r5,r7,r9,r30,0,0,0,0,0,0,false,0,0,0,0,0,0,0,0,0,0,0,0,0,0,0,0,0,0,0,0,E0,0,0,0,0,0,0,false,E0,E0,r34,E0,r32,r36.1,r36.2.1,r36.2.2,r42.1,r42.2.1,r42.2.2.1,r42.2.2.2.1,r42.2.2.2.2.1,r42.2.2.2.2.2,0,0,E0,E0,E0,E0,E0,E0,E0,E0,false,0,E0,E0,E0,E0,E0,E0,E0,E0)
 else
 if (cop .eql (iop .add .i64 1 r3) 17)=true then
 (g25 x1 6).bind fun (r31:Int)=>
 (g32 r31).bind fun (r32:LL)=>
 ZbN Zx x1 0 0 0 0 0 0 0 0 0 0 0 false 0 0 0 0 0 0 0 0 0 0 0 0 0 0 0 0 0 0 0 0 E0 0 0 0 0 0 0 false E0 E0 E0 E0 0 0 E0 E0 E0 E0 E0 E0 E0 E0 0 0 E0 E0 E0 E0 E0 E0 E0 E0 false 0 E0 E0 E0 E0 E0 E0 E0 E0 (iop .add .i64 1 r3) r5 r7 r9 r30 0 0 0 0 0 0 false 0 0 0 0 0 0 0 0 0 0 0 0 0 0 0 0 0 0 0 0 E0 0 0 0 0 0 0 false E0 E0 r32 E0 0 0 E0 E0 E0 E0 E0 E0 E0 E0 0 0 E0 E0 E0 E0 E0 E0 E0 E0 false 0 E0 E0 E0 E0 E0 E0 E0 E0 0
 else
 some ((iop .add .i64 1 r3),r5,r7,r9,r30,0,0,0,0,0,0,false,0,0,0,0,0,0,0,0,0,0,0,0,0,0,0,0,0,0,0,0,E0,0,0,0,0,0,0,false,E0,E0,E0,E0,0,0,E0,E0,E0,E0,E0,E0,E0,E0,0,0,E0,E0,E0,E0,E0,E0,E0,E0,false,0,E0,E0,E0,E0,E0,E0,E0,E0)
 else
 if (cop .eql (iop .add .i64 1 r3) 1)=true then
 (g28 x1 5).bind fun (r29:LL)=>
 (g27 r29 r16.2.2.1 r16.2.2.2.1 r16.2.2.2.2.1 r16.2.2.2.2.2.1 r16.2.2.2.2.2.2.1 r16.2.2.2.2.2.2.2.1 r16.2.2.2.2.2.2.2.2.1 r16.2.2.2.2.2.2.2.2.2.1 r16.2.2.2.2.2.2.2.2.2.2.1 r16.2.2.2.2.2.2.2.2.2.2.2.1 (d4 (d8 r16))).bind fun (r30:Qt5)=>
 some ((iop .add .i64 1 r3),r5,r7,r9,0,0,0,0,0,0,0,false,r30.1,r30.2.1,r30.2.2.1,r30.2.2.2.1,r30.2.2.2.2.1,r30.2.2.2.2.2.1,r30.2.2.2.2.2.2.1,r30.2.2.2.2.2.2.2.1,r30.2.2.2.2.2.2.2.2.1,r30.2.2.2.2.2.2.2.2.2.1,r30.2.2.2.2.2.2.2.2.2.2.1,r30.2.2.2.2.2.2.2.2.2.2.2.1,(d4 (d8 r30)).1,(d4 (d8 r30)).2.1,(d2 (d4 (d8 r30))).1,(d2 (d4 (d8 r30))).2.1,(d16 r30).1,(d16 r30).2.1,(d2 (d16 r30)).1,(d2 (d16 r30)).2.1,(d4 (d16 r30)).1,(d4 (d16 r30)).2.1,(d2 (d4 (d16 r30))).1,(d2 (d4 (d16 r30))).2.1,(d8 (d16 r30)).1,(d8 (d16 r30)).2.1,(d2 (d8 (d16 r30))).1,(d2 (d8 (d16 r30))).2,E0,E0,E0,E0,0,0,E0,E0,E0,E0,E0,E0,E0,E0,0,0,E0,E0,E0,E0,E0,E0,E0,E0,false,0,E0,E0,E0,E0,E0,E0,E0,E0)
 else
 if (cop .eql (iop .add .i64 1 r3) 2)=true then
 (g25 x1 6).bind fun (r29:Int)=>
 (g9 r29 20).bind fun (r30:Int)=>
 (g25 x1 7).bind fun (r31:Int)=>
 (g9 r31 2).bind fun (r32:Int)=>
 Zbs Zx x1 x2 0 0 0 0 0 0 0 0 0 0 0 false 0 0 0 0 0 0 0 0 0 0 0 0 0 0 0 0 0 0 0 0 E0 0 0 0 0 0 0 false E0 E0 E0 E0 0 0 E0 E0 E0 E0 E0 E0 E0 E0 0 0 E0 E0 E0 E0 E0 E0 E0 E0 false 0 E0 E0 E0 E0 E0 E0 E0 E0 (iop .add .i64 1 r3) r5 r7 r9 0 0 0 0 0 0 r30 (cop .eql r32 1) 0 0 0 0 0 0 0 0 0 0 0 0 0 0 0 0 0 0 0 0 E0 0 0 0 0 0 0 false E0 E0 E0 E0 0 0 E0 E0 E0 E0 E0 E0 E0 E0 0 0 E0 E0 E0 E0 E0 E0 E0 E0 false 0 E0 E0 E0 E0 E0 E0 E0 E0 0
 else
 if (cop .eql (iop .add .i64 1 r3) 4)=true then
 (g25 x1 6).bind fun (r29:Int)=>
 (g9 r29 12).bind fun (r30:Int)=>
 (g30 r16.2.2.1 r16.2.2.2.1 r16.2.2.2.2.1 r16.2.2.2.2.2.1 r16.2.2.2.2.2.2.1 r16.2.2.2.2.2.2.2.1 r16.2.2.2.2.2.2.2.2.1 r16.2.2.2.2.2.2.2.2.2.1 r16.2.2.2.2.2.2.2.2.2.2.1 r16.2.2.2.2.2.2.2.2.2.2.2.1 (d4 (d8 r16))).bind fun (r31:Qt17)=>
 some ((iop .add .i64 1 r3),r5,r7,r9,0,0,r30,0,0,0,0,false,0,0,0,0,0,0,0,0,0,0,0,0,0,0,0,0,0,0,0,0,E0,0,0,0,0,0,0,false,E0,(E0++[[AV.val (.int .i64 r31.1),AV.val (.int .i64 r31.2.1),AV.val (.int .i64 r31.2.2.1),AV.slice false 3 r31.2.2.2.1,AV.val (.int .i64 r31.2.2.2.2.1),AV.val (.int .i64 r31.2.2.2.2.2.1),AV.val (.int .i64 r31.2.2.2.2.2.2.1),AV.val (.int .i64 r31.2.2.2.2.2.2.2.1),AV.val (.int .i64 r31.2.2.2.2.2.2.2.2.1),AV.val (.int .i64 r31.2.2.2.2.2.2.2.2.2.1),AV.val (.bool r31.2.2.2.2.2.2.2.2.2.2)]]),E0,E0,0,0,E0,E0,E0,E0,E0,E0,E0,E0,0,0,E0,E0,E0,E0,E0,E0,E0,E0,false,0,E0,E0,E0,E0,E0,E0,E0,E0)
 else
 if (cop .eql (iop .add .i64 1 r3) 5)=true then
 (g25 x1 6).bind fun (r29:Int)=>
 (g9 r29 20).bind fun (r30:Int)=>
 some ((iop .add .i64 1 r3),r5,r7,r9,0,0,0,0,0,0,r30,false,0,0,0,0,0,0,0,0,0,0,0,0,0,0,0,0,0,0,0,0,E0,0,0,0,0,0,0,false,E0,E0,E0,E0,0,0,E0,E0,E0,E0,E0,E0,E0,E0,0,0,E0,E0,E0,E0,E0,E0,E0,E0,false,0,E0,E0,E0,E0,E0,E0,E0,E0)
 else
 if (cop .eql (iop .add .i64 1 r3) 6)=true then
 (g28 x1 6).bind fun (r29:LL)=>
 (g31 r29).bind fun (r30:LL)=>
 some ((iop .add .i64 1 r3),r5,r7,r9,0,0,0,0,0,0,0,false,0,0,0,0,0,0,0,0,0,0,0,0,0,0,0,0,0,0,0,0,E0,0,0,0,0,0,0,false,r30,E0,E0,E0,0,0,E0,E0,E0,E0,E0,E0,E0,E0,0,0,E0,E0,E0,E0,E0,E0,E0,E0,false,0,E0,E0,E0,E0,E0,E0,E0,E0)
 else
 if (cop .eql (iop .add .i64 1 r3) 12)=true then
 (g25 x1 6).bind fun (r29:Int)=>
 (g32 r29).bind fun (r30:LL)=>
 some ((iop .add .i64 1 r3),r5,r7,r9,0,0,0,0,0,0,0,false,0,0,0,0,0,0,0,0,0,0,0,0,0,0,0,0,0,0,0,0,E0,0,0,0,0,0,0,false,E0,E0,r30,E0,0,0,E0,E0,E0,E0,E0,E0,E0,E0,0,0,E0,E0,E0,E0,E0,E0,E0,E0,false,0,E0,E0,E0,E0,E0,E0,E0,E0)
 else
 if (cop .eql (iop .add .i64 1 r3) 13)=true then
 (g28 x1 6).bind fun (r29:LL)=>
 (g33 r29 x2).bind fun (r30:Qt10)=>
 some ((iop .add .i64 1 r3),r5,r7,r9,0,0,0,0,0,0,0,false,0,0,0,0,0,0,0,0,0,0,0,0,0,0,0,0,0,0,0,0,E0,0,0,0,0,0,0,false,E0,E0,E0,E0,0,0,E0,E0,E0,E0,E0,E0,E0,E0,r30.1,r30.2.1,r30.2.2.1,r30.2.2.2.1,r30.2.2.2.2.1,r30.2.2.2.2.2.1,r30.2.2.2.2.2.2.1,r30.2.2.2.2.2.2.2.1,r30.2.2.2.2.2.2.2.2.1,r30.2.2.2.2.2.2.2.2.2.1,r30.2.2.2.2.2.2.2.2.2.2.1,r30.2.2.2.2.2.2.2.2.2.2.2.1,(d4 (d8 r30)).1,(d4 (d8 r30)).2.1,(d2 (d4 (d8 r30))).1,(d2 (d4 (d8 r30))).2.1,(d16 r30).1,(d16 r30).2.1,(d2 (d16 r30)).1,(d2 (d16 r30)).2)
 else
 if (cop .eql (iop .add .i64 1 r3) 14)=true then
 (g25 x1 5).bind fun (r29:Int)=>
 (g9 r29 70).bind fun (r30:Int)=>
 (g25 x1 6).bind fun (r31:Int)=>
 (g32 r31).bind fun (r32:LL)=>
 (g28 x1 7).bind fun (r33:LL)=>
 (g34 r33).bind fun (r34:Int×LL×LL)=>
 (g28 x1 8).bind fun (r37:LL)=>
 (g25 x1 9).bind fun (r38:Int)=>
 (g9 r38 4).bind fun (r39:Int)=>
 (g10 r37 x2 r39).bind fun (r40:Qt19)=>
 some ((iop .add .i64 1 r3),r5,r7,r9,0,0,0,0,0,0,0,false,0,0,0,0,0,0,0,0,0,0,0,0,0,0,0,0,0,0,0,0,E0,0,0,0,0,0,0,false,E0,E0,r32,E0,r30,r34.1,r34.2.1,r34.2.2,r40.1,r40.2.1,r40.2.2.1,r40.2.2.2.1,r40.2.2.2.2.1,r40.2.2.2.2.2,0,0,E0,E0,E0,E0,E0,E0,E0,E0,false,0,E0,E0,E0,E0,E0,E0,E0,E0)
 else
 if (cop .eql (iop .add .i64 1 r3) 17)=true then
 (g25 x1 6).bind fun (r29:Int)=>
 (g32 r29).bind fun (r30:LL)=>
 ZbN Zx x1 0 0 0 0 0 0 0 0 0 0 0 false 0 0 0 0 0 0 0 0 0 0 0 0 0 0 0 0 0 0 0 0 E0 0 0 0 0 0 0 false E0 E0 E0 E0 0 0 E0 E0 E0 E0 E0 E0 E0 E0 0 0 E0 E0 E0 E0 E0 E0 E0 E0 false 0 E0 E0 E0 E0 E0 E0 E0 E0 (iop .add .i64 1 r3) r5 r7 r9 0 0 0 0 0 0 0 false 0 0 0 0 0 0 0 0 0 0 0 0 0 0 0 0 0 0 0 0 E0 0 0 0 0 0 0 false E0 E0 r30 E0 0 0 E0 E0 E0 E0 E0 E0 E0 E0 0 0 E0 E0 E0 E0 E0 E0 E0 E0 false 0 E0 E0 E0 E0 E0 E0 E0 E0 0
 else
 some ((iop .add .i64 1 r3),r5,r7,r9,0,0,0,0,0,0,0,false,0,0,0,0,0,0,0,0,0,0,0,0,0,0,0,0,0,0,0,0,E0,0,0,0,0,0,0,false,E0,E0,E0,E0,0,0,E0,E0,E0,E0,E0,E0,E0,E0,0,0,E0,E0,E0,E0,E0,E0,E0,E0,false,0,E0,E0,E0,E0,E0,E0,E0,E0)
 else
 if (cop .leq (iop .add .i64 1 r3) 11)=true then
 (g25 x1 4).bind fun (r14:Int)=>
 (g9 r14 3).bind fun (r15:Int)=>
 if (cop .neq (iop .add .i64 1 r3) 1)=true then
 (g25 x1 5).bind fun (r16:Int)=>
 (g26 r16).bind fun (r17:Int×Int×Int)=>
 if (cop .eql (iop .add .i64 1 r3) 1)=true then
 (g28 x1 5).bind fun (r20:LL)=>
 (g27 r20 r11.1 r11.2.1 r11.2.2 E0 2 4096 12 3 0 0 false).bind fun (r21:Qt5)=>
 some ((iop .add .i64 1 r3),r5,r7,r9,0,r15,0,r17.1,r17.2.1,r17.2.2,0,false,r21.1,r21.2.1,r21.2.2.1,r21.2.2.2.1,r21.2.2.2.2.1,r21.2.2.2.2.2.1,r21.2.2.2.2.2.2.1,r21.2.2.2.2.2.2.2.1,r21.2.2.2.2.2.2.2.2.1,r21.2.2.2.2.2.2.2.2.2.1,r21.2.2.2.2.2.2.2.2.2.2.1,r21.2.2.2.2.2.2.2.2.2.2.2.1,(d4 (d8 r21)).1,(d4 (d8 r21)).2.1,(d2 (d4 (d8 r21))).1,(d2 (d4 (d8 r21))).2.1,(d16 r21).1,(d16 r21).2.1,(d2 (d16 r21)).1,(d2 (d16 r21)).2.1,(d4 (d16 r21)).1,(d4 (d16 r21)).2.1,(d2 (d4 (d16 r21))).1,(d2 (d4 (d16 r21))).2.1,(d8 (d16 r21)).1,(d8 (d16 r21)).2.1,(d2 (d8 (d16 r21))).1,(d2 (d8 (d16 r21))).2,E0,E0,E0,E0,0,0,E0,E0,E0,E0,E0,E0,E0,E0,0,0,E0,E0,E0,E0,E0,E0,E0,E0,false,0,E0,E0,E0,E0,E0,E0,E0,E0)
 else
 if (cop .eql (iop .add .i64 1 r3) 2)=true then
 (g25 x1 6).bind fun (r20:Int)=>
 (g9 r20 20).bind fun (r21:Int)=>
 (g25 x1 7).bind fun (r22:Int)=>
 (g9 r22 2).bind fun (r23:Int)=>
 Zbs Zx x1 x2 0 0 0 0 0 0 0 0 0 0 0 false 0 0 0 0 0 0 0 0 0 0 0 0 0 0 0 0 0 0 0 0 E0 0 0 0 0 0 0 false E0 E0 E0 E0 0 0 E0 E0 E0 E0 E0 E0 E0 E0 0 0 E0 E0 E0 E0 E0 E0 E0 E0 false 0 E0 E0 E0 E0 E0 E0 E0 E0 (iop .add .i64 1 r3) r5 r7 r9 0 r15 0 r17.1 r17.2.1 r17.2.2 r21 (cop .eql r23 1) 0 0 0 0 0 0 0 0 0 0 0 0 0 0 0 0 0 0 0 0 E0 0 0 0 0 0 0 false E0 E0 E0 E0 0 0 E0 E0 E0 E0 E0 E0 E0 E0 0 0 E0 E0 E0 E0 E0 E0 E0 E0 false 0 E0 E0 E0 E0 E0 E0 E0 E0 0
 else
 if (cop .eql (iop .add .i64 1 r3) 4)=true then
 (g25 x1 6).bind fun (r20:Int)=>
 (g9 r20 12).bind fun (r21:Int)=>
 (g30 r11.1 r11.2.1 r11.2.2 E0 2 4096 12 3 0 0 false).bind fun (r22:Qt17)=>
 some ((iop .add .i64 1 r3),r5,r7,r9,0,r15,r21,r17.1,r17.2.1,r17.2.2,0,false,0,0,0,0,0,0,0,0,0,0,0,0,0,0,0,0,0,0,0,0,E0,0,0,0,0,0,0,false,E0,(E0++[[AV.val (.int .i64 r22.1),AV.val (.int .i64 r22.2.1),AV.val (.int .i64 r22.2.2.1),AV.slice false 3 r22.2.2.2.1,AV.val (.int .i64 r22.2.2.2.2.1),AV.val (.int .i64 r22.2.2.2.2.2.1),AV.val (.int .i64 r22.2.2.2.2.2.2.1),AV.val (.int .i64 r22.2.2.2.2.2.2.2.1),AV.val (.int .i64 r22.2.2.2.2.2.2.2.2.1),AV.val (.int .i64 r22.2.2.2.2.2.2.2.2.2.1),AV.val (.bool r22.2.2.2.2.2.2.2.2.2.2)]]),E0,E0,0,0,E0,E0,E0,E0,E0,E0,E0,E0,0,0,E0,E0,E0,E0,E0,E0,E0,E0,false,0,E0,E0,E0,E0,E0,E0,E0,E0)
 else
 if (cop .eql (iop .add .i64 1 r3) 5)=true then
 (g25 x1 6).bind fun (r20:Int)=>
 (g9 r20 20).bind fun (r21:Int)=>
 some ((iop .add .i64 1 r3),r5,r7,r9,0,r15,0,r17.1,r17.2.1,r17.2.2,r21,false,0,0,0,0,0,0,0,0,0,0,0,0,0,0,0,0,0,0,0,0,E0,0,0,0,0,0,0,false,E0,E0,E0,E0,0,0,E0,E0,E0,E0,E0,E0,E0,E0,0,0,E0,E0,E0,E0,E0,E0,E0,E0,false,0,E0,E0,E0,E0,E0,E0,E0,E0)
 else
 if (cop .eql (iop .add .i64 1 r3) 6)=true then
 (g28 x1 6).bind fun (r20:LL)=>
 (g31 r20).bind fun (r21:LL)=>
 some ((iop .add .i64 1 r3),r5,r7,r9,0,r15,0,r17.1,r17.2.1,r17.2.2,0,false,0,0,0,0,0,0,0,0,0,0,0,0,0,0,0,0,0,0,0,0,E0,0,0,0,0,0,0,false,r21,E0,E0,E0,0,0,E0,E0,E0,E0,E0,E0,E0,E0,0,0,E0,E0,E0,E0,E0,E0,E0,E0,false,0,E0,E0,E0,E0,E0,E0,E0,E0)
 else
 if (cop .eql (iop .add .i64 1 r3) 12)=true then
 (g25 x1 6).bind fun (r20:Int)=>
 (g32 r20).bind fun (r21:LL)=>
 some ((iop .add .i64 1 r3),r5,r7,r9,0,r15,0,r17.1,r17.2.1,r17.2.2,0,false,0,0,0,0,0,0,0,0,0,0,0,0,0,0,0,0,0,0,0,0,E0,0,0,0,0,0,0,false,E0,E0,r21,E0,0,0,E0,E0,E0,E0,E0,E0,E0,E0,0,0,E0,E0,E0,E0,E0,E0,E0,E0,false,0,E0,E0,E0,E0,E0,E0,E0,E0)
 else
 if (cop .eql (iop .add .i64 1 r3) 13)=true then
 (g28 x1 6).bind fun (r20:LL)=>
 (g33 r20 x2).bind fun (r21:Qt10)=>
 some ((iop .add .i64 1 r3),r5,r7,r9,0,r15,0,r17.1,r17.2.1,r17.2.2,0,false,0,0,0,0,0,0,0,0,0,0,0,0,0,0,0,0,0,0,0,0,E0,0,0,0,0,0,0,false,E0,E0,E0,E0,0,0,E0,E0,E0,E0,E0,E0,E0,E0,r21.1,r21.2.1,r21.2.2.1,r21.2.2.2.1,r21.2.2.2.2.1,r21.2.2.2.2.2.1,r21.2.2.2.2.2.2.1,r21.2.2.2.2.2.2.2.1,r21.2.2.2.2.2.2.2.2.1,r21.2.2.2.2.2.2.2.2.2.1,r21.2.2.2.2.2.2.2.2.2.2.1,r21.2.2.2.2.2.2.2.2.2.2.2.1,(d4 (d8 r21)).1,(d4 (d8 r21)).2.1,(d2 (d4 (d8 r21))).1,(d2 (d4 (d8 r21))).2.1,(d16 r21).1,(d16 r21).2.1,(d2 (d16 r21)).1,(d2 (d16 r21)).2)
 else
 if (cop .eql (iop .add .i64 1 r3) 14)=true then
 (g25 x1 5).bind fun (r20:Int)=>
 (g9 r20 70).bind fun (r21:Int)=>
 (g25 x1 6).bind fun (r22:Int)=>
 (g32 r22).bind fun (r23:LL)=>
 (g28 x1 7).bind fun (r24:LL)=>
 (g34 r24).bind fun (r25:Int×LL×LL)=>
 (g28 x1 8).bind fun (r28:LL)=>
 (g25 x1 9).bind fun (r29:Int)=>
 (g9 r29 4).bind fun (r30:Int)=>
 (g10 r28 x2 r30).bind fun (r31:Qt19)=>
 some ((iop .add .i64 1 r3),r5,r7,r9,0,r15,0,r17.1,r17.2.1,r17.2.2,0,false,0,0,0,0,0,0,0,0,0,0,0,0,0,0,0,0,0,0,0,0,E0,0,0,0,0,0,0,false,E0,E0,r23,E0,r21,r25.1,r25.2.1,r25.2.2,r31.1,r31.2.1,r31.2.2.1,r31.2.2.2.1,r31.2.2.2.2.1,r31.2.2.2.2.2,0,0,E0,E0,E0,E0,E0,E0,E0,E0,false,0,E0,E0,E0,E0,E0,E0,E0,E0)
 else
 if (cop .eql (iop .add .i64 1 r3) 17)=true then
 (g25 x1 6).bind fun (r20:Int)=>
 (g32 r20).bind fun (r21:LL)=>
 ZbN Zx x1 0 0 0 0 0 0 0 0 0 0 0 false 0 0 0 0 0 0 0 0 0 0 0 0 0 0 0 0 0 0 0 0 E0 0 0 0 0 0 0 false E0 E0 E0 E0 0 0 E0 E0 E0 E0 E0 E0 E0 E0 0 0 E0 E0 E0 E0 E0 E0 E0 E0 false 0 E0 E0 E0 E0 E0 E0 E0 E0 (iop .add .i64 1 r3) r5 r7 r9 0 r15 0 r17.1 r17.2.1 r17.2.2 0 false 0 0 0 0 0 0 0 0 0 0 0 0 0 0 0 0 0 0 0 0 E0 0 0 0 0 0 0 false E0 E0 r21 E0 0 0 E0 E0 E0 E0 E0 E0 E0 E0 0 0 E0 E0 E0 E0 E0 E0 E0 E0 false 0 E0 E0 E0 E0 E0 E0 E0 E0 0
 else
 some ((iop .add .i64 1 r3),r5,r7,r9,0,r15,0,r17.1,r17.2.1,r17.2.2,0,false,0,0,0,0,0,0,0,0,0,0,0,0,0,0,0,0,0,0,0,0,E0,0,0,0,0,0,0,false,E0,E0,E0,E0,0,0,E0,E0,E0,E0,E0,E0,E0,E0,0,0,E0,E0,E0,E0,E0,E0,E0,E0,false,0,E0,E0,E0,E0,E0,E0,E0,E0)
 else
 if (cop .eql (iop .add .i64 1 r3) 1)=true then
 (g28 x1 5).bind fun (r16:LL)=>
 (g27 r16 r11.1 r11.2.1 r11.2.2 E0 2 4096 12 3 0 0 false).bind fun (r17:Qt5)=>
 some ((iop .add .i64 1 r3),r5,r7,r9,0,r15,0,0,0,0,0,false,r17.1,r17.2.1,r17.2.2.1,r17.2.2.2.1,r17.2.2.2.2.1,r17.2.2.2.2.2.1,r17.2.2.2.2.2.2.1,r17.2.2.2.2.2.2.2.1,r17.2.2.2.2.2.2.2.2.1,r17.2.2.2.2.2.2.2.2.2.1,r17.2.2.2.2.2.2.2.2.2.2.1,r17.2.2.2.2.2.2.2.2.2.2.2.1,(d4 (d8 r17)).1,(d4 (d8 r17)).2.1,(d2 (d4 (d8 r17))).1,(d2 (d4 (d8 r17))).2.1,(d16 r17).1,(d16 r17).2.1,(d2 (d16 r17)).1,(d2 (d16 r17)).2.1,(d4 (d16 r17)).1,(d4 (d16 r17)).2.1,(d2 (d4 (d16 r17))).1,(d2 (d4 (d16 r17))).2.1,(d8 (d16 r17)).1,(d8 (d16 r17)).2.1,(d2 (d8 (d16 r17))).1,(d2 (d8 (d16 r17))).2,E0,E0,E0,E0,0,0,E0,E0,E0,E0,E0,E0,E0,E0,0,0,E0,E0,E0,E0,E0,E0,E0,E0,false,0,E0,E0,E0,E0,E0,E0,E0,E0)
 else
 if (cop .eql (iop .add .i64 1 r3) 2)=true then
 (g25 x1 6).bind fun (r16:Int)=>
 (g9 r16 20).bind fun (r17:Int)=>
 (g25 x1 7).bind fun (r18:Int)=>
 (g9 r18 2).bind fun (r19:Int)=>
 Zbs Zx x1 x2 0 0 0 0 0 0 0 0 0 0 0 false 0 0 0 0 0 0 0 0 0 0 0 0 0 0 0 0 0 0 0 0 E0 0 0 0 0 0 0 false E0 E0 E0 E0 0 0 E0 E0 E0 E0 E0 E0 E0 E0 0 0 E0 E0 E0 E0 E0 E0 E0 E0 false 0 E0 E0 E0 E0 E0 E0 E0 E0 (iop .add .i64 1 r3) r5 r7 r9 0 r15 0 0 0 0 r17 (cop .eql r19 1) 0 0 0 0 0 0 0 0 0 0 0 0 0 0 0 0 0 0 0 0 E0 0 0 0 0 0 0 false E0 E0 E0 E0 0 0 E0 E0 E0 E0 E0 E0 E0 E0 0 0 E0 E0 E0 E0 E0 E0 E0 E0 false 0 E0 E0 E0 E0 E0 E0 E0 E0 0
 else
 if (cop .eql (iop .add .i64 1 r3) 4)=true then
 (g25 x1 6).bind fun (r16:Int)=>
 (g9 r16 12).bind fun (r17:Int)=>
 (g30 r11.1 r11.2.1 r11.2.2 E0 2 4096 12 3 0 0 false).bind fun (r18:Qt17)=>
 some ((iop .add .i64 1 r3),r5,r7,r9,0,r15,r17,0,0,0,0,false,0,0,0,0,0,0,0,0,0,0,0,0,0,0,0,0,0,0,0,0,E0,0,0,0,0,0,0,false,E0,(E0++[[AV.val (.int .i64 r18.1),AV.val (.int .i64 r18.2.1),AV.val (.int .i64 r18.2.2.1),AV.slice false 3 r18.2.2.2.1,AV.val (.int .i64 r18.2.2.2.2.1),AV.val (.int .i64 r18.2.2.2.2.2.1),AV.val (.int .i64 r18.2.2.2.2.2.2.1),AV.val (.int .i64 r18.2.2.2.2.2.2.2.1),AV.val (.int .i64 r18.2.2.2.2.2.2.2.2.1),AV.val (.int .i64 r18.2.2.2.2.2.2.2.2.2.1),AV.val (.bool r18.2.2.2.2.2.2.2.2.2.2)]]),E0,E0,0,0,E0,E0,E0,E0,E0,E0,E0,E0,0,0,E0,E0,E0,E0,E0,E0,E0,E0,false,0,E0,E0,E0,E0,E0,E0,E0,E0)
 else
 if (cop .eql (iop .add .i64 1 r3) 5)=true then
 (g25 x1 6).bind fun (r16:Int)=>
 (g9 r16 20).bind fun (r17:Int)=>
 some ((iop .add .i64 1 r3),r5,r7,r9,0,r15,0,0,0,0,r17,false,0,0,0,0,0,0,0,0,0,0,0,0,0,0,0,0,0,0,0,0,E0,0,0,0,0,0,0,false,E0,E0,E0,E0,0,0,E0,E0,E0,E0,E0,E0,E0,E0,0,0,E0,E0,E0,E0,E0,E0,E0,E0,false,0,E0,E0,E0,E0,E0,E0,E0,E0)
 else
 if (cop .eql (iop .add .i64 1 r3) 6)=true then
 (g28 x1 6).bind fun (r16:LL)=>
 (g31 r16).bind fun (r17:LL)=>
 some ((iop .add .i64 1 r3),r5,r7,r9,0,r15,0,0,0,0,0,false,0,0,0,0,0,0,0,0,0,0,0,0,0,0,0,0,0,0,0,0,E0,0,0,0,0,0,0,false,r17,E0,E0,E0,0,0,E0,E0,E0,E0,E0,E0,E0,E0,0,0,E0,E0,E0,E0,E0,E0,E0,E0,false,0,E0,E0,E0,E0,E0,E0,E0,E0)
 else
 if (cop .eql (iop .add .i64 1 r3) 12)=true then
 (g25 x1 6).bind fun (r16:Int)=>
 (g32 r16).bind fun (r17:LL)=>
 some ((iop .add .i64 1 r3),r5,r7,r9,0,r15,0,0,0,0,0,false,0,0,0,0,0,0,0,0,0,0,0,0,0,0,0,0,0,0,0,0,E0,0,0,0,0,0,0,false,E0,E0,r17,E0,0,0,E0,E0,E0,E0,E0,E0,E0,E0,0,0,E0,E0,E0,E0,E0,E0,E0,E0,false,0,E0,E0,E0,E0,E0,E0,E0,E0)
 else
 if (cop .eql (iop .add .i64 1 r3) 13)=true then
 (g28 x1 6).bind fun (r16:LL)=>
 (g33 r16 x2).bind fun (r17:Qt10)=>
 some ((iop .add .i64 1 r3),r5,r7,r9,0,r15,0,0,0,0,0,false,0,0,0,0,0,0,0,0,0,0,0,0,0,0,0,0,0,0,0,0,E0,0,0,0,0,0,0,false,E0,E0,E0,E0,0,0,E0,E0,E0,E0,E0,E0,E0,E0,r17.1,r17.2.1,r17.2.2.1,r17.2.2.2.1,r17.2.2.2.2.1,r17.2.2.2.2.2.1,r17.2.2.2.2.2.2.1,r17.2.2.2.2.2.2.2.1,r17.2.2.2.2.2.2.2.2.1,r17.2.2.2.2.2.2.2.2.2.1,r17.2.2.2.2.2.2.2.2.2.2.1,r17.2.2.2.2.2.2.2.2.2.2.2.1,(d4 (d8 r17)).1,(d4 (d8 r17)).2.1,(d2 (d4 (d8 r17))).1,(d2 (d4 (d8 r17))).2.1,(d16 r17).1,(d16 r17).2.1,(d2 (d16 r17)).1,(d2 (d16 r17)).2)
 else
 if (cop .eql (iop .add .i64 1 r3) 14)=true then
 (g25 x1 5).bind fun (r16:Int)=>
 (g9 r16 70).bind fun (r17:Int)=>
 (g25 x1 6).bind fun (r18:Int)=>
 (g32 r18).bind fun (r19:LL)=>
 (g28 x1 7).bind fun (r20:LL)=>
 (g34 r20).bind fun (r21:Int×LL×LL)=>
 (g28 x1 8).bind fun (r24:LL)=>
 (g25 x1 9).bind fun (r25:Int)=>
 (g9 r25 4).bind fun (r26:Int)=>
 (g10 r24 x2 r26).bind fun (r27:Qt19)=>
 some ((iop .add .i64 1 r3),r5,r7,r9,0,r15,0,0,0,0,0,false,0,0,0,0,0,0,0,0,0,0,0,0,0,0,0,0,0,0,0,0,E0,0,0,0,0,0,0,false,E0,E0,r19,E0,r17,r21.1,r21.2.1,r21.2.2,r27.1,r27.2.1,r27.2.2.1,r27.2.2.2.1,r27.2.2.2.2.1,r27.2.2.2.2.2,0,0,E0,E0,E0,E0,E0,E0,E0,E0,false,0,E0,E0,E0,E0,E0,E0,E0,E0)
 else
 if (cop .eql (iop .add .i64 1 r3) 17)=true then
 (g25 x1 6).bind fun (r16:Int)=>
 (g32 r16).bind fun (r17:LL)=>
 ZbN Zx x1 0 0 0 0 0 0 0 0 0 0 0 false 0 0 0 0 0 0 0 0 0 0 0 0 0 0 0 0 0 0 0 0 E0 0 0 0 0 0 0 false E0 E0 E0 E0 0 0 E0 E0 E0 E0 E0 E0 E0 E0 0 0 E0 E0 E0 E0 E0 E0 E0 E0 false 0 E0 E0 E0 E0 E0 E0 E0 E0 (iop .add .i64 1 r3) r5 r7 r9 0 r15 0 0 0 0 0 false 0 0 0 0 0 0 0 0 0 0 0 0 0 0 0 0 0 0 0 0 E0 0 0 0 0 0 0 false E0 E0 r17 E0 0 0 E0 E0 E0 E0 E0 E0 E0 E0 0 0 E0 E0 E0 E0 E0 E0 E0 E0 false 0 E0 E0 E0 E0 E0 E0 E0 E0 0
 else
 some ((iop .add .i64 1 r3),r5,r7,r9,0,r15,0,0,0,0,0,false,0,0,0,0,0,0,0,0,0,0,0,0,0,0,0,0,0,0,0,0,E0,0,0,0,0,0,0,false,E0,E0,E0,E0,0,0,E0,E0,E0,E0,E0,E0,E0,E0,0,0,E0,E0,E0,E0,E0,E0,E0,E0,false,0,E0,E0,E0,E0,E0,E0,E0,E0)
 else
 if (cop .lss (iop .add .i64 1 r3) 17)=true then
 (g25 x1 4).bind fun (r14:Int)=>
 (g9 r14 5).bind fun (r15:Int)=>
 if (cop .eql (iop .add .i64 1 r3) 1)=true then
 (g28 x1 5).bind fun (r16:LL)=>
 (g27 r16 r11.1 r11.2.1 r11.2.2 E0 2 4096 12 3 0 0 false).bind fun (r17:Qt5)=>
 some ((iop .add .i64 1 r3),r5,r7,r9,r15,0,0,0,0,0,0,false,r17.1,r17.2.1,r17.2.2.1,r17.2.2.2.1,r17.2.2.2.2.1,r17.2.2.2.2.2.1,r17.2.2.2.2.2.2.1,r17.2.2.2.2.2.2.2.1,r17.2.2.2.2.2.2.2.2.1,r17.2.2.2.2.2.2.2.2.2.1,r17.2.2.2.2.2.2.2.2.2.2.1,r17.2.2.2.2.2.2.2.2.2.2.2.1,(d4 (d8 r17)).1,(d4 (d8 r17)).2.1,(d2 (d4 (d8 r17))).1,(d2 (d4 (d8 r17))).2.1,(d16 r17).1,(d16 r17).2.1,(d2 (d16 r17)).1,(d2 (d16 r17)).2.1,(d4 (d16 r17)).1,(d4 (d16 r17)).2.1,(d2 (d4 (d16 r17))).1,(d2 (d4 (d16 r17))).2.1,(d8 (d16 r17)).1,(d8 (d16 r17)).2.1,(d2 (d8 (d16 r17))).1,(d2 (d8 (d16 r17))).2,E0,E0,E0,E0,0,0,E0,E0,E0,E0,E0,E0,E0,E0,0,0,E0,E0,E0,E0,E0,E0,E0,E0,false,0,E0,E0,E0,E0,E0,E0,E0,E0)
 else
 if (cop .eql (iop .add .i64 1 r3) 2)=true then
 (g25 x1 6).bind fun (r16:Int)=>
 (g9 r16 20).bind fun (r17:Int)=>
 (g25 x1 7).bind fun (r18:Int)=>
 (g9 r18 2).bind fun (r19:Int)=>
 Zbs Zx x1 x2 0 0 0 0 0 0 0 0 0 0 0 false 0 0 0 0 0 0 0 0 0 0 0 0 0 0 0 0 0 0 0 0 E0 0 0 0 0 0 0 false E0 E0 E0 E0 0 0 E0 E0 E0 E0 E0 E0 E0 E0 0 0 E0 E0 E0 E0 E0 E0 E0 E0 false 0 E0 E0 E0 E0 E0 E0 E0 E0 (iop .add .i64 1 r3) r5 r7 r9 r15 0 0 0 0 0 r17 (cop .eql r19 1) 0 0 0 0 0 0 0 0 0 0 0 0 0 0 0 0 0 0 0 0 E0 0 0 0 0 0 0 false E0 E0 E0 E0 0 0 E0 E0 E0 E0 E0 E0 E0 E0 0 0 E0 E0 E0 E0 E0 E0 E0 E0 false 0 E0 E0 E0 E0 E0 E0 E0 E0 0
 else
 if (cop .eql (iop .add .i64 1 r3) 4)=true then
 (g25 x1 6).bind fun (r16:Int)=>
 (g9 r16 12).bind fun (r17:Int)=>
 (g30 r11.1 r11.2.1 r11.2.2 E0 2 4096 12 3 0 0 false).bind fun (r18:Qt17)=>
 some ((iop .add .i64 1 r3),r5,r7,r9,r15,0,r17,0,0,0,0,false,0,0,0,0,0,0,0,0,0,0,0,0,0,0,0,0,0,0,0,0,E0,0,0,0,0,0,0,false,E0,(E0++[[AV.val (.int .i64 r18.1),AV.val (.int .i64 r18.2.1),AV.val (.int .i64 r18.2.2.1),AV.slice false 3 r18.2.2.2.1,AV.val (.int .i64 r18.2.2.2.2.1),AV.val (.int .i64 r18.2.2.2.2.2.1),AV.val (.int .i64 r18.2.2.2.2.2.2.1),AV.val (.int .i64 r18.2.2.2.2.2.2.2.1),AV.val (.int .i64 r18.2.2.2.2.2.2.2.2.1),AV.val (.int .i64 r18.2.2.2.2.2.2.2.2.2.1),AV.val (.bool r18.2.2.2.2.2.2.2.2.2.2)]]),E0,E0,0,0,E0,E0,E0,E0,E0,E0,E0,E0,0,0,E0,E0,E0,E0,E0,E0,E0,E0,false,0,E0,E0,E0,E0,E0,E0,E0,E0)
 else
 if (cop .eql (iop .add .i64 1 r3) 5)=true then
 (g25 x1 6).bind fun (r16:Int)=>
 (g9 r16 20).bind fun (r17:Int)=>
 some ((iop .add .i64 1 r3),r5,r7,r9,r15,0,0,0,0,0,r17,false,0,0,0,0,0,0,0,0,0,0,0,0,0,0,0,0,0,0,0,0,E0,0,0,0,0,0,0,false,E0,E0,E0,E0,0,0,E0,E0,E0,E0,E0,E0,E0,E0,0,0,E0,E0,E0,E0,E0,E0,E0,E0,false,0,E0,E0,E0,E0,E0,E0,E0,E0)
 else
 if (cop .eql (iop .add .i64 1 r3) 6)=true then
 (g28 x1 6).bind fun (r16:LL)=>
 (g31 r16).bind fun (r17:LL)=>
 some ((iop .add .i64 1 r3),r5,r7,r9,r15,0,0,0,0,0,0,false,0,0,0,0,0,0,0,0,0,0,0,0,0,0,0,0,0,0,0,0,E0,0,0,0,0,0,0,false,r17,E0,E0,E0,0,0,E0,E0,E0,E0,E0,E0,E0,E0,0,0,E0,E0,E0,E0,E0,E0,E0,E0,false,0,E0,E0,E0,E0,E0,E0,E0,E0)
 else
 if (cop .eql (iop .add .i64 1 r3) 12)=true then
 (g25 x1 6).bind fun (r16:Int)=>
 (g32 r16).bind fun (r17:LL)=>
 some ((iop .add .i64 1 r3),r5,r7,r9,r15,0,0,0,0,0,0,false,0,0,0,0,0,0,0,0,0,0,0,0,0,0,0,0,0,0,0,0,E0,0,0,0,0,0,0,false,E0,E0,r17,E0,0,0,E0,E0,E0,E0,E0,E0,E0,E0,0,0,E0,E0,E0,E0,E0,E0,E0,E0,false,0,E0,E0,E0,E0,E0,E0,E0,E0)
 else
 if (cop .eql (iop .add .i64 1 r3) 13)=true then
 (g28 x1 6).bind fun (r16:LL)=>
 (g33 r16 x2).bind fun (r17:Qt10)=>
 some ((iop .add .i64 1 r3),r5,r7,r9,r15,0,0,0,0,0,0,false,0,0,0,0,0,0,0,0,0,0,0,0,0,0,0,0,0,0,0,0,E0,0,0,0,0,0,0,false,E0,E0,E0,E0,0,0,E0,E0,E0,E0,E0,E0,E0,E0,r17.1,r17.2.1,r17.2.2.1,r17.2.2.2.1,r17.2.2.2.2.1,r17.2.2.2.2.2.1,r17.2.2.2.2.2.2.1,r17.2.2.2.2.2.2.2.1,r17.2.2.2.2.2.2.2.2.1,r17.2.2.2.2.2.2.2.2.2.1,r17.2.2.2.2.2.2.2.2.2.2.1,r17.2.2.2.2.2.2.2.2.2.2.2.1,(d4 (d8 r17)).1,(d4 (d8 r17)).2.1,(d2 (d4 (d8 r17))).1,(d2 (d4 (d8 r17))).2.1,(d16 r17).1,(d16 r17).2.1,(d2 (d16 r17)).1,(d2 (d16 r17)).2)
 else
 if (cop .eql (iop .add .i64 1 r3) 14)=true then
 (g25 x1 5).bind fun (r16:Int)=>
 (g9 r16 70).bind fun (r17:Int)=>
 (g25 x1 6).bind fun (r18:Int)=>
 (g32 r18).bind fun (r19:LL)=>
 (g28 x1 7).bind fun (r20:LL)=>
 (g34 r20).bind fun (r21:Int×LL×LL)=>
 (g28 x1 8).bind fun (r24:LL)=>
 (g25 x1 9).bind fun (r25:Int)=>
 (g9 r25 4).bind fun (r26:Int)=>
 (g10 r24 x2 r26).bind fun (r27:Qt19)=>
 some ((iop .add .i64 1 r3),r5,r7,r9,r15,0,0,0,0,0,0,false,0,0,0,0,0,0,0,0,0,0,0,0,0,0,0,0,0,0,0,0,E0,0,0,0,0,0,0,false,E0,E0,r19,E0,r17,r21.1,r21.2.1,r21.2.2,r27.1,r27.2.1,r27.2.2.1,r27.2.2.2.1,r27.2.2.2.2.1,r27.2.2.2.2.2,0,0,E0,E0,E0,E0,E0,E0,E0,E0,false,0,E0,E0,E0,E0,E0,E0,E0,E0)
 else
 if (cop .eql (iop .add .i64 1 r3) 17)=true then
 (g25 x1 6).bind fun (r16:Int)=>
 (g32 r16).bind fun (r17:LL)=>
 ZbN Zx x1 0 0 0 0 0 0 0 0 0 0 0 false 0 0 0 0 0 0 0 0 0 0 0 0 0 0 0 0 0 0 0 0 E0 0 0 0 0 0 0 false E0 E0 E0 E0 0 0 E0 E0 E0 E0 E0 E0 E0 E0 0 0 E0 E0 E0 E0 E0 E0 E0 E0 false 0 E0 E0 E0 E0 E0 E0 E0 E0 (iop .add .i64 1 r3) r5 r7 r9 r15 0 0 0 0 0 0 false 0 0 0 0 0 0 0 0 0 0 0 0 0 0 0 0 0 0 0 0 E0 0 0 0 0 0 0 false E0 E0 r17 E0 0 0 E0 E0 E0 E0 E0 E0 E0 E0 0 0 E0 E0 E0 E0 E0 E0 E0 E0 false 0 E0 E0 E0 E0 E0 E0 E0 E0 0
 else
 some ((iop .add .i64 1 r3),r5,r7,r9,r15,0,0,0,0,0,0,false,0,0,0,0,0,0,0,0,0,0,0,0,0,0,0,0,0,0,0,0,E0,0,0,0,0,0,0,false,E0,E0,E0,E0,0,0,E0,E0,E0,E0,E0,E0,E0,E0,0,0,E0,E0,E0,E0,E0,E0,E0,E0,false,0,E0,E0,E0,E0,E0,E0,E0,E0)
 else
 if (cop .eql (iop .add .i64 1 r3) 1)=true then
 (g28 x1 5).bind fun (r14:LL)=>
 (g27 r14 r11.1 r11.2.1 r11.2.2 E0 2 4096 12 3 0 0 false).bind fun (r15:Qt5)=>
 some ((iop .add .i64 1 r3),r5,r7,r9,0,0,0,0,0,0,0,false,r15.1,r15.2.1,r15.2.2.1,r15.2.2.2.1,r15.2.2.2.2.1,r15.2.2.2.2.2.1,r15.2.2.2.2.2.2.1,r15.2.2.2.2.2.2.2.1,r15.2.2.2.2.2.2.2.2.1,r15.2.2.2.2.2.2.2.2.2.1,r15.2.2.2.2.2.2.2.2.2.2.1,r15.2.2.2.2.2.2.2.2.2.2.2.1,(d4 (d8 r15)).1,(d4 (d8 r15)).2.1,(d2 (d4 (d8 r15))).1,(d2 (d4 (d8 r15))).2.1,(d16 r15).1,(d16 r15).2.1,(d2 (d16 r15)).1,(d2 (d16 r15)).2.1,(d4 (d16 r15)).1,(d4 (d16 r15)).2.1,(d2 (d4 (d16 r15))).1,(d2 (d4 (d16 r15))).2.1,(d8 (d16 r15)).1,(d8 (d16 r15)).2.1,(d2 (d8 (d16 r15))).1,(d2 (d8 (d16 r15))).2,E0,E0,E0,E0,0,0,E0,E0,E0,E0,E0,E0,E0,E0,0,0,E0,E0,E0,E0,E0,E0,E0,E0,false,0,E0,E0,E0,E0,E0,E0,E0,E0)
 else
 if (cop .eql (iop .add .i64 1 r3) 2)=true then
 (g25 x1 6).bind fun (r14:Int)=>
 (g9 r14 20).bind fun (r15:Int)=>
 (g25 x1 7).bind fun (r16:Int)=>
 (g9 r16 2).bind fun (r17:Int)=>
 Zbs Zx x1 x2 0 0 0 0 0 0 0 0 0 0 0 false 0 0 0 0 0 0 0 0 0 0 0 0 0 0 0 0 0 0 0 0 E0 0 0 0 0 0 0 false E0 E0 E0 E0 0 0 E0 E0 E0 E0 E0 E0 E0 E0 0 0 E0 E0 E0 E0 E0 E0 E0 E0 false 0 E0 E0 E0 E0 E0 E0 E0 E0 (iop .add .i64 1 r3) r5 r7 r9 0 0 0 0 0 0 r15 (cop .eql r17 1) 0 0 0 0 0 0 0 0 0 0 0 0 0 0 0 0 0 0 0 0 E0 0 0 0 0 0 0 false E0 E0 E0 E0 0 0 E0 E0 E0 E0 E0 E0 E0 E0 0 0 E0 E0 E0 E0 E0 E0 E0 E0 false 0 E0 E0 E0 E0 E0 E0 E0 E0 0
 else
 if (cop .eql (iop .add .i64 1 r3) 4)=true then
 (g25 x1 6).bind fun (r14:Int)=>
 (g9 r14 12).bind fun (r15:Int)=>
 (g30 r11.1 r11.2.1 r11.2.2 E0 2 4096 12 3 0 0 false).bind fun (r16:Qt17)=>
 some ((iop .add .i64 1 r3),r5,r7,r9,0,0,r15,0,0,0,0,false,0,0,0,0,0,0,0,0,0,0,0,0,0,0,0,0,0,0,0,0,E0,0,0,0,0,0,0,false,E0,(E0++[[AV.val (.int .i64 r16.1),AV.val (.int .i64 r16.2.1),AV.val (.int .i64 r16.2.2.1),AV.slice false 3 r16.2.2.2.1,AV.val (.int .i64 r16.2.2.2.2.1),AV.val (.int .i64 r16.2.2.2.2.2.1),AV.val (.int .i64 r16.2.2.2.2.2.2.1),AV.val (.int .i64 r16.2.2.2.2.2.2.2.1),AV.val (.int .i64 r16.2.2.2.2.2.2.2.2.1),AV.val (.int .i64 r16.2.2.2.2.2.2.2.2.2.1),AV.val (.bool r16.2.2.2.2.2.2.2.2.2.2)]]),E0,E0,0,0,E0,E0,E0,E0,E0,E0,E0,E0,0,0,E0,E0,E0,E0,E0,E0,E0,E0,false,0,E0,E0,E0,E0,E0,E0,E0,E0)
 else
 if (cop .eql (iop .add .i64 1 r3) 5)=true then
 (g25 x1 6).bind fun (r14:Int)=>
 (g9 r14 20).bind fun (r15:Int)=>
 some ((iop .add .i64 1 r3),r5,r7,r9,0,0,0,0,0,0,r15,false,0,0,0,0,0,0,0,0,0,0,0,0,0,0,0,0,0,0,0,0,E0,0,0,0,0,0,0,false,E0,E0,E0,E0,0,0,E0,E0,E0,E0,E0,E0,E0,E0,0,0,E0,E0,E0,E0,E0,E0,E0,E0,false,0,E0,E0,E0,E0,E0,E0,E0,E0)
 else
 if (cop .eql (iop .add .i64 1 r3) 6)=true then
 (g28 x1 6).bind fun (r14:LL)=>
 (g31 r14).bind fun (r15:LL)=>
 some ((iop .add .i64 1 r3),r5,r7,r9,0,0,0,0,0,0,0,false,0,0,0,0,0,0,0,0,0,0,0,0,0,0,0,0,0,0,0,0,E0,0,0,0,0,0,0,false,r15,E0,E0,E0,0,0,E0,E0,E0,E0,E0,E0,E0,E0,0,0,E0,E0,E0,E0,E0,E0,E0,E0,false,0,E0,E0,E0,E0,E0,E0,E0,E0)
 else
 if (cop .eql (iop .add .i64 1 r3) 12)=true then
 (g25 x1 6).bind fun (r14:Int)=>
 (g32 r14).bind fun (r15:LL)=>
 some ((iop .add .i64 1 r3),r5,r7,r9,0,0,0,0,0,0,0,false,0,0,0,0,0,0,0,0,0,0,0,0,0,0,0,0,0,0,0,0,E0,0,0,0,0,0,0,false,E0,E0,r15,E0,0,0,E0,E0,E0,E0,E0,E0,E0,E0,0,0,E0,E0,E0,E0,E0,E0,E0,E0,false,0,E0,E0,E0,E0,E0,E0,E0,E0)
 else
 if (cop .eql (iop .add .i64 1 r3) 13)=true then
 (g28 x1 6).bind fun (r14:LL)=>
 (g33 r14 x2).bind fun (r15:Qt10)=>
 some ((iop .add .i64 1 r3),r5,r7,r9,0,0,0,0,0,0,0,false,0,0,0,0,0,0,0,0,0,0,0,0,0,0,0,0,0,0,0,0,E0,0,0,0,0,0,0,false,E0,E0,E0,E0,0,0,E0,E0,E0,E0,E0,E0,E0,E0,r15.1,r15.2.1,r15.2.2.1,r15.2.2.2.1,r15.2.2.2.2.1,r15.2.2.2.2.2.1,r15.2.2.2.2.2.2.1,r15.2.2.2.2.2.2.2.1,r15.2.2.2.2.2.2.2.2.1,r15.2.2.2.2.2.2.2.2.2.1,r15.2.2.2.2.2.2.2.2.2.2.1,r15.2.2.2.2.2.2.2.2.2.2.2.1,(d4 (d8 r15)).1,(d4 (d8 r15)).2.1,(d2 (d4 (d8 r15))).1,(d2 (d4 (d8 r15))).2.1,(d16 r15).1,(d16 r15).2.1,(d2 (d16 r15)).1,(d2 (d16 r15)).2)
 else
 if (cop .eql (iop .add .i64 1 r3) 14)=true then
 (g25 x1 5).bind fun (r14:Int)=>
 (g9 r14 70).bind fun (r15:Int)=>
 (g25 x1 6).bind fun (r16:Int)=>
 (g32 r16).bind fun (r17:LL)=>
 (g28 x1 7).bind fun (r18:LL)=>
 (g34 r18).bind fun (r19:Int×LL×LL)=>
 (g28 x1 8).bind fun (r22:LL)=>
 (g25 x1 9).bind fun (r23:Int)=>
 (g9 r23 4).bind fun (r24:Int)=>
 (g10 r22 x2 r24).bind fun (r25:Qt19)=>
 some ((iop .add .i64 1 r3),r5,r7,r9,0,0,0,0,0,0,0,false,0,0,0,0,0,0,0,0,0,0,0,0,0,0,0,0,0,0,0,0,E0,0,0,0,0,0,0,false,E0,E0,r17,E0,r15,r19.1,r19.2.1,r19.2.2,r25.1,r25.2.1,r25.2.2.1,r25.2.2.2.1,r25.2.2.2.2.1,r25.2.2.2.2.2,0,0,E0,E0,E0,E0,E0,E0,E0,E0,false,0,E0,E0,E0,E0,E0,E0,E0,E0)
 else
 if (cop .eql (iop .add .i64 1 r3) 17)=true then
 (g25 x1 6).bind fun (r14:Int)=>
 (g32 r14).bind fun (r15:LL)=>
 ZbN Zx x1 0 0 0 0 0 0 0 0 0 0 0 false 0 0 0 0 0 0 0 0 0 0 0 0 0 0 0 0 0 0 0 0 E0 0 0 0 0 0 0 false E0 E0 E0 E0 0 0 E0 E0 E0 E0 E0 E0 E0 E0 0 0 E0 E0 E0 E0 E0 E0 E0 E0 false 0 E0 E0 E0 E0 E0 E0 E0 E0 (iop .add .i64 1 r3) r5 r7 r9 0 0 0 0 0 0 0 false 0 0 0 0 0 0 0 0 0 0 0 0 0 0 0 0 0 0 0 0 E0 0 0 0 0 0 0 false E0 E0 r15 E0 0 0 E0 E0 E0 E0 E0 E0 E0 E0 0 0 E0 E0 E0 E0 E0 E0 E0 E0 false 0 E0 E0 E0 E0 E0 E0 E0 E0 0
 else
 some ((iop .add .i64 1 r3),r5,r7,r9,0,0,0,0,0,0,0,false,0,0,0,0,0,0,0,0,0,0,0,0,0,0,0,0,0,0,0,0,E0,0,0,0,0,0,0,false,E0,E0,E0,E0,0,0,E0,E0,E0,E0,E0,E0,E0,E0,0,0,E0,E0,E0,E0,E0,E0,E0,E0,false,0,E0,E0,E0,E0,E0,E0,E0,E0)):=by kernel_rfl
end Go.Proofs.YtljejgmcgddppaaGreat
