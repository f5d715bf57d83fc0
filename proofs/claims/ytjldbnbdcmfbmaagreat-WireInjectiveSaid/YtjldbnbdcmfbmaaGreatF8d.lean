/- Functions of the program, as what they compute. -/
import Derived.Test.YtjldbnbdcmfbmaaGreatF8c
namespace Go.Proofs.YtjldbnbdcmfbmaaGreat
open Go Go.AM
set_option linter.unusedVariables false
set_option maxRecDepth 100000
noncomputable def Zu1:Fn:=⟨59,[4,5,6],[(4,[(0,.c (.slice 1)),(1,.c (.int .i64)),(4,.c (.int .u64)),(7,.c (.int .i64))])],[],0,[],[],Tryz.f131,[.c (.slice 1),.c (.int .i64)],[.c (.int .u64),.c (.int .i64),.c (.int .i64)],[]⟩
theorem ZsD:Zu1.S.Ok Tryz.prog 131:=Zu1.ok Tryz.func131 (by kernel_rfl) trivial
noncomputable def F63:Fn:=⟨38,[2],[],[0],0,[],[],Tryz.f63,[.box [.slice 1,.int .i64,.bool]],[.c (.int .i64)],[(131,Zu1.S)]⟩
theorem ZmA:F63.S.Ok Tryz.prog 63:=F63.ok Tryz.func63 (by kernel_rfl) ⟨ZsD,trivial⟩
noncomputable def Zth:Fn:=⟨10,[2],[],[0],0,[],[],Tryz.f133,[.box [.slice 1,.int .i64,.bool]],[.agg [.int .i64,.int .i64,.int .i64]],[(63,F63.S)]⟩
theorem Zpb:Zth.S.Ok Tryz.prog 133:=Zth.ok Tryz.func133 (by kernel_rfl) ⟨ZmA,trivial⟩
noncomputable def Zy5:Fn:=⟨29,[4,5,6],[],[],0,[],[],Tryz.f232,[.c (.slice 1),.c (.int .i64)],[.c (.int .i64),.c (.int .i64),.c (.int .i64)],[(131,Zu1.S)]⟩
theorem Zzx:Zy5.S.Ok Tryz.prog 232:=Zy5.ok Tryz.func232 (by kernel_rfl) ⟨ZsD,trivial⟩
noncomputable def Zyr:Fn:=⟨33,[2],[],[0],0,[],[],Tryz.f220,[.box [.slice 1,.int .i64,.bool]],[.c (.int .i64)],[(232,Zy5.S)]⟩
theorem Zyg:Zyr.S.Ok Tryz.prog 220:=Zyr.ok Tryz.func220 (by kernel_rfl) ⟨Zzx,trivial⟩
noncomputable def Zxy:Fn:=⟨28,[2],[],[0],0,[],[],Tryz.f186,[.box [.slice 1,.int .i64,.bool]],[.agg hs13],[(220,Zyr.S)]⟩
theorem Zyb:Zxy.S.Ok Tryz.prog 186:=Zxy.ok Tryz.func186 (by kernel_rfl) ⟨Zyg,trivial⟩
noncomputable def Zp5:Fn:=⟨22,[2],[],[0],0,[],[],Tryz.f188,[.box [.slice 1,.int .i64,.bool]],[.c (.int .i64)],[(63,F63.S)]⟩
theorem ZkQ:Zp5.S.Ok Tryz.prog 188:=Zp5.ok Tryz.func188 (by kernel_rfl) ⟨ZmA,trivial⟩
noncomputable def ZwL:Fn:=⟨42,[4],[],[0],0,[],[],Tryz.f234,[.box [.slice 1,.int .i64,.bool],.c (.int .i64)],[.c (.int .i64)],[(131,Zu1.S)]⟩
theorem ZuW:ZwL.S.Ok Tryz.prog 234:=ZwL.ok Tryz.func234 (by kernel_rfl) ⟨ZsD,trivial⟩
noncomputable def ZyL:Fn:=⟨10,[2],[],[0],0,[],[],Tryz.f233,[.box [.slice 1,.int .i64,.bool]],[.agg [.int .i64,.int .i64,.int .i64]],[(234,ZwL.S)]⟩
theorem ZxT:ZyL.S.Ok Tryz.prog 233:=ZyL.ok Tryz.func233 (by kernel_rfl) ⟨ZuW,trivial⟩
noncomputable def ZyR:Fn:=⟨65,[2,3],[(5,[(0,.c (.slice 1)),(2,.box hs27),(4,.box hs27),(43,.c (.int .i64))])],[],0,[],[],Tryz.f235,[.c (.slice 1)],[.agg hs27,.c (.int .i64)],[(166,Ztf.S)]⟩
theorem ZzO:ZyR.S.Ok Tryz.prog 235:=ZyR.ok Tryz.func235 (by kernel_rfl) ⟨ZqV,trivial⟩
noncomputable def Zyi:Fn:=⟨52,[2,3],[(4,[(0,.c (.slice 1)),(2,.box hs16),(4,.ptr 10 0),(5,.box hs14),(15,.c (.int .i64)),(16,.c (.int .i64)),(10,.box [.slice 1,.int .i64,.bool])])],[],0,[],[],Tryz.f221,[.c (.slice 1)],[.agg hs16,.c (.int .i64)],[(233,ZyL.S),(234,ZwL.S),(235,ZyR.S),(95,F95.S)]⟩
theorem ZyY:Zyi.S.Ok Tryz.prog 221:=Zyi.ok Tryz.func221 (by kernel_rfl) ⟨ZxT,⟨ZuW,⟨ZzO,⟨Zti,trivial⟩⟩⟩⟩
noncomputable def ZvA:Fn:=⟨50,[2],[],[0],0,[],[],Tryz.f187,[.box [.slice 1,.int .i64,.bool]],[.agg hs16],[(188,Zp5.S),(221,Zyi.S)]⟩
theorem ZrT:ZvA.S.Ok Tryz.prog 187:=ZvA.ok Tryz.func187 (by kernel_rfl) ⟨ZkQ,⟨ZyY,trivial⟩⟩
noncomputable def Zxl:Fn:=⟨14,[2],[],[0],0,[],[],Tryz.f132,[.box [.slice 1,.int .i64,.bool]],[.agg hs6],[(133,Zth.S),(186,Zxy.S),(63,F63.S),(187,ZvA.S)]⟩
theorem Zu3:Zxl.S.Ok Tryz.prog 132:=Zxl.ok Tryz.func132 (by kernel_rfl) ⟨Zpb,⟨Zyb,⟨ZmA,⟨ZrT,trivial⟩⟩⟩⟩
noncomputable def ZwX:Fn:=⟨13,[2],[],[0],0,[],[],Tryz.f134,[.box [.slice 1,.int .i64,.bool]],[.c (.bool)],[(63,F63.S)]⟩
theorem ZuQ:ZwX.S.Ok Tryz.prog 134:=ZwX.ok Tryz.func134 (by kernel_rfl) ⟨ZmA,trivial⟩
noncomputable def Zys:Fn:=⟨15,[2],[(3,[(0,.box [.slice 1,.int .i64,.bool]),(3,.c (.own false 33)),(5,.c (.int .i64)),(6,.c (.int .i64))])],[0],0,[],[],Tryz.f135,[.box [.slice 1,.int .i64,.bool]],[.c (.own false 33)],[(188,Zp5.S),(187,ZvA.S)]⟩
theorem ZyZ:Zys.S.Ok Tryz.prog 135:=Zys.ok Tryz.func135 (by kernel_rfl) ⟨ZkQ,⟨ZrT,trivial⟩⟩
noncomputable def Zw7:Fn:=⟨15,[2],[(3,[(0,.box [.slice 1,.int .i64,.bool]),(3,.c (.own false 25)),(5,.c (.int .i64)),(6,.c (.int .i64))])],[0],0,[],[],Tryz.f136,[.box [.slice 1,.int .i64,.bool]],[.c (.own false 25)],[(188,Zp5.S),(133,Zth.S)]⟩
theorem Zui:Zw7.S.Ok Tryz.prog 136:=Zw7.ok Tryz.func136 (by kernel_rfl) ⟨ZkQ,⟨Zpb,trivial⟩⟩
noncomputable def Zwq:Fn:=⟨15,[2],[(3,[(0,.box [.slice 1,.int .i64,.bool]),(3,.c (.own false 3)),(5,.c (.int .i64)),(6,.c (.int .i64))])],[0],0,[],[],Tryz.f137,[.box [.slice 1,.int .i64,.bool]],[.c (.own false 3)],[(188,Zp5.S),(63,F63.S)]⟩
theorem ZuX:Zwq.S.Ok Tryz.prog 137:=Zwq.ok Tryz.func137 (by kernel_rfl) ⟨ZkQ,⟨ZmA,trivial⟩⟩
noncomputable def Zwx:Fn:=⟨10,[2],[],[0],0,[],[],Tryz.f139,[.box [.slice 1,.int .i64,.bool]],[.agg [.int .i64,.slice 1,.slice 1]],[(63,F63.S),(137,Zwq.S)]⟩
theorem ZuC:Zwx.S.Ok Tryz.prog 139:=Zwx.ok Tryz.func139 (by kernel_rfl) ⟨ZmA,⟨ZuX,trivial⟩⟩
noncomputable def Zwr:Fn:=⟨84,[2],[(3,[(0,.box [.slice 1,.int .i64,.bool]),(2,.box hs30),(3,.box hs20),(5,.c (.int .i64)),(6,.c (.int .i64))]),(7,[(0,.box [.slice 1,.int .i64,.bool]),(2,.box hs30),(3,.box hs20),(22,.c (.int .i64)),(23,.c (.int .i64))]),(11,[(0,.box [.slice 1,.int .i64,.bool]),(2,.box hs30),(3,.box hs20),(34,.c (.int .i64)),(35,.c (.int .i64))]),(15,[(0,.box [.slice 1,.int .i64,.bool]),(2,.box hs30),(3,.box hs20),(49,.c (.int .i64)),(50,.c (.int .i64))]),(19,[(0,.box [.slice 1,.int .i64,.bool]),(2,.box hs30),(3,.box hs20),(64,.c (.int .i64)),(65,.c (.int .i64))])],[0],0,[],[],Tryz.f140,[.box [.slice 1,.int .i64,.bool]],[.agg hs30],[(188,Zp5.S),(187,ZvA.S),(63,F63.S),(133,Zth.S),(132,Zxl.S),(136,Zw7.S)]⟩
theorem ZuV:Zwr.S.Ok Tryz.prog 140:=Zwr.ok Tryz.func140 (by kernel_rfl) ⟨ZkQ,⟨ZrT,⟨ZmA,⟨Zpb,⟨Zu3,⟨Zui,trivial⟩⟩⟩⟩⟩⟩
noncomputable def Zxw:Fn:=⟨16,[2],[],[0],0,[],[],Tryz.f138,[.box [.slice 1,.int .i64,.bool]],[.agg hs7],[(63,F63.S),(139,Zwx.S),(140,Zwr.S),(134,ZwX.S)]⟩
theorem ZxP:Zxw.S.Ok Tryz.prog 138:=Zxw.ok Tryz.func138 (by kernel_rfl) ⟨ZmA,⟨ZuC,⟨ZuV,⟨ZuQ,trivial⟩⟩⟩⟩
noncomputable def ZyN:Fn:=⟨18,[2],[(3,[(0,.box [.slice 1,.int .i64,.bool]),(3,.c (.own false 81)),(5,.c (.int .i64)),(6,.c (.int .i64))])],[0],0,[],[],Tryz.f141,[.box [.slice 1,.int .i64,.bool]],[.c (.own false 81)],[(188,Zp5.S),(63,F63.S)]⟩
theorem ZxF:ZyN.S.Ok Tryz.prog 141:=ZyN.ok Tryz.func141 (by kernel_rfl) ⟨ZkQ,⟨ZmA,trivial⟩⟩
noncomputable def F64:Fn:=⟨112,[],[],[0,1],0,[],[],Tryz.f64,[.box [.slice 1,.int .i64,.bool],.box hs0,.c (.int .i64)],[],[(63,F63.S),(132,Zxl.S),(133,Zth.S),(134,ZwX.S),(135,Zys.S),(136,Zw7.S),(137,Zwq.S),(138,Zxw.S),(139,Zwx.S),(140,Zwr.S),(141,ZyN.S)]⟩
theorem ZBL:F64.S.Ok Tryz.prog 64:=F64.ok Tryz.func64 (by kernel_rfl) ⟨ZmA,⟨Zu3,⟨Zpb,⟨ZuQ,⟨ZyZ,⟨Zui,⟨ZuX,⟨ZxP,⟨ZuC,⟨ZuV,⟨ZxF,trivial⟩⟩⟩⟩⟩⟩⟩⟩⟩⟩⟩
noncomputable def F65:Fn:=⟨10,[4],[],[],0,[],[],Tryz.f65,[.c (.slice 1),.c (.slice 1)],[.c (.bool)],[]⟩
theorem ZCj:F65.S.Ok Tryz.prog 65:=F65.ok Tryz.func65 (by kernel_rfl) trivial
noncomputable def F17:Fn:=⟨60,[2,3],[(5,[(0,.c (.slice 1)),(2,.box hs0),(4,.ptr 14 0),(5,.box hs0),(30,.c (.slice 1)),(31,.c (.int .i64)),(32,.c (.int .i64)),(14,.box [.slice 1,.int .i64,.bool])])],[],0,[],[],Tryz.f17,[.c (.slice 1)],[.agg hs0,.c (.int .i64)],[(63,F63.S),(32,F32.S),(64,F64.S),(14,F14.S),(65,F65.S)]⟩
theorem ZBe:F17.S.Ok Tryz.prog 17:=F17.ok Tryz.func17 (by kernel_rfl) ⟨ZmA,⟨ZzY,⟨ZBL,⟨Zzm,⟨ZCj,trivial⟩⟩⟩⟩⟩
noncomputable def g17 (a:LL):Option (Qt4):=F17.S.g [.l a]
end Go.Proofs.YtjldbnbdcmfbmaaGreat
