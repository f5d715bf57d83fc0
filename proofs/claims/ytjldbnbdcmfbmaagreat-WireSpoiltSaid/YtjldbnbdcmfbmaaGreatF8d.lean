/- Functions of the program, as what they compute. -/
import Derived.Test.YtjldbnbdcmfbmaaGreatF8c
namespace Go.Proofs.YtjldbnbdcmfbmaaGreat
open Go Go.AM
set_option linter.unusedVariables false
set_option maxRecDepth 100000
noncomputable def Zxe:Fn:=⟨59,[4,5,6],[(4,[(0,.c (.slice 1)),(1,.c (.int .i64)),(4,.c (.int .u64)),(7,.c (.int .i64))])],[],0,[],[],Tryz.f131,[.c (.slice 1),.c (.int .i64)],[.c (.int .u64),.c (.int .i64),.c (.int .i64)],[]⟩
theorem Zt8:Zxe.S.Ok Tryz.prog 131:=Zxe.ok Tryz.func131 (by kernel_rfl) trivial
noncomputable def F63:Fn:=⟨38,[2],[],[0],0,[],[],Tryz.f63,[.box [.slice 1,.int .i64,.bool]],[.c (.int .i64)],[(131,Zxe.S)]⟩
theorem Zm9:F63.S.Ok Tryz.prog 63:=F63.ok Tryz.func63 (by kernel_rfl) ⟨Zt8,trivial⟩
noncomputable def ZuE:Fn:=⟨10,[2],[],[0],0,[],[],Tryz.f133,[.box [.slice 1,.int .i64,.bool]],[.agg [.int .i64,.int .i64,.int .i64]],[(63,F63.S)]⟩
theorem ZqN:ZuE.S.Ok Tryz.prog 133:=ZuE.ok Tryz.func133 (by kernel_rfl) ⟨Zm9,trivial⟩
noncomputable def ZBY:Fn:=⟨29,[4,5,6],[],[],0,[],[],Tryz.f232,[.c (.slice 1),.c (.int .i64)],[.c (.int .i64),.c (.int .i64),.c (.int .i64)],[(131,Zxe.S)]⟩
theorem ZBT:ZBY.S.Ok Tryz.prog 232:=ZBY.ok Tryz.func232 (by kernel_rfl) ⟨Zt8,trivial⟩
noncomputable def ZBK:Fn:=⟨33,[2],[],[0],0,[],[],Tryz.f220,[.box [.slice 1,.int .i64,.bool]],[.c (.int .i64)],[(232,ZBY.S)]⟩
theorem ZA2:ZBK.S.Ok Tryz.prog 220:=ZBK.ok Tryz.func220 (by kernel_rfl) ⟨ZBT,trivial⟩
noncomputable def ZAZ:Fn:=⟨28,[2],[],[0],0,[],[],Tryz.f186,[.box [.slice 1,.int .i64,.bool]],[.agg hs13],[(220,ZBK.S)]⟩
theorem Zzv:ZAZ.S.Ok Tryz.prog 186:=ZAZ.ok Tryz.func186 (by kernel_rfl) ⟨ZA2,trivial⟩
noncomputable def Zrh:Fn:=⟨22,[2],[],[0],0,[],[],Tryz.f188,[.box [.slice 1,.int .i64,.bool]],[.c (.int .i64)],[(63,F63.S)]⟩
theorem Zl9:Zrh.S.Ok Tryz.prog 188:=Zrh.ok Tryz.func188 (by kernel_rfl) ⟨Zm9,trivial⟩
noncomputable def ZyQ:Fn:=⟨42,[4],[],[0],0,[],[],Tryz.f234,[.box [.slice 1,.int .i64,.bool],.c (.int .i64)],[.c (.int .i64)],[(131,Zxe.S)]⟩
theorem Zwq:ZyQ.S.Ok Tryz.prog 234:=ZyQ.ok Tryz.func234 (by kernel_rfl) ⟨Zt8,trivial⟩
noncomputable def ZAi:Fn:=⟨10,[2],[],[0],0,[],[],Tryz.f233,[.box [.slice 1,.int .i64,.bool]],[.agg [.int .i64,.int .i64,.int .i64]],[(234,ZyQ.S)]⟩
theorem ZAy:ZAi.S.Ok Tryz.prog 233:=ZAi.ok Tryz.func233 (by kernel_rfl) ⟨Zwq,trivial⟩
noncomputable def ZAd:Fn:=⟨65,[2,3],[(5,[(0,.c (.slice 1)),(2,.box hs27),(4,.box hs27),(43,.c (.int .i64))])],[],0,[],[],Tryz.f235,[.c (.slice 1)],[.agg hs27,.c (.int .i64)],[(166,ZuC.S)]⟩
theorem Zzs:ZAd.S.Ok Tryz.prog 235:=ZAd.ok Tryz.func235 (by kernel_rfl) ⟨Zta,trivial⟩
noncomputable def ZAL:Fn:=⟨52,[2,3],[(4,[(0,.c (.slice 1)),(2,.box hs16),(4,.ptr 10 0),(5,.box hs14),(15,.c (.int .i64)),(16,.c (.int .i64)),(10,.box [.slice 1,.int .i64,.bool])])],[],0,[],[],Tryz.f221,[.c (.slice 1)],[.agg hs16,.c (.int .i64)],[(233,ZAi.S),(234,ZyQ.S),(235,ZAd.S),(95,F95.S)]⟩
theorem Zz5:ZAL.S.Ok Tryz.prog 221:=ZAL.ok Tryz.func221 (by kernel_rfl) ⟨ZAy,⟨Zwq,⟨Zzs,⟨ZuI,trivial⟩⟩⟩⟩
noncomputable def Zyc:Fn:=⟨50,[2],[],[0],0,[],[],Tryz.f187,[.box [.slice 1,.int .i64,.bool]],[.agg hs16],[(188,Zrh.S),(221,ZAL.S)]⟩
theorem Zsd:Zyc.S.Ok Tryz.prog 187:=Zyc.ok Tryz.func187 (by kernel_rfl) ⟨Zl9,⟨Zz5,trivial⟩⟩
noncomputable def ZyN:Fn:=⟨14,[2],[],[0],0,[],[],Tryz.f132,[.box [.slice 1,.int .i64,.bool]],[.agg hs6],[(133,ZuE.S),(186,ZAZ.S),(63,F63.S),(187,Zyc.S)]⟩
theorem Zxu:ZyN.S.Ok Tryz.prog 132:=ZyN.ok Tryz.func132 (by kernel_rfl) ⟨ZqN,⟨Zzv,⟨Zm9,⟨Zsd,trivial⟩⟩⟩⟩
noncomputable def ZyG:Fn:=⟨13,[2],[],[0],0,[],[],Tryz.f134,[.box [.slice 1,.int .i64,.bool]],[.c (.bool)],[(63,F63.S)]⟩
theorem Zwf:ZyG.S.Ok Tryz.prog 134:=ZyG.ok Tryz.func134 (by kernel_rfl) ⟨Zm9,trivial⟩
noncomputable def ZzW:Fn:=⟨15,[2],[(3,[(0,.box [.slice 1,.int .i64,.bool]),(3,.c (.own false 33)),(5,.c (.int .i64)),(6,.c (.int .i64))])],[0],0,[],[],Tryz.f135,[.box [.slice 1,.int .i64,.bool]],[.c (.own false 33)],[(188,Zrh.S),(187,Zyc.S)]⟩
theorem ZBX:ZzW.S.Ok Tryz.prog 135:=ZzW.ok Tryz.func135 (by kernel_rfl) ⟨Zl9,⟨Zsd,trivial⟩⟩
noncomputable def Zy8:Fn:=⟨15,[2],[(3,[(0,.box [.slice 1,.int .i64,.bool]),(3,.c (.own false 25)),(5,.c (.int .i64)),(6,.c (.int .i64))])],[0],0,[],[],Tryz.f136,[.box [.slice 1,.int .i64,.bool]],[.c (.own false 25)],[(188,Zrh.S),(133,ZuE.S)]⟩
theorem ZwX:Zy8.S.Ok Tryz.prog 136:=Zy8.ok Tryz.func136 (by kernel_rfl) ⟨Zl9,⟨ZqN,trivial⟩⟩
noncomputable def Zyy:Fn:=⟨15,[2],[(3,[(0,.box [.slice 1,.int .i64,.bool]),(3,.c (.own false 3)),(5,.c (.int .i64)),(6,.c (.int .i64))])],[0],0,[],[],Tryz.f137,[.box [.slice 1,.int .i64,.bool]],[.c (.own false 3)],[(188,Zrh.S),(63,F63.S)]⟩
theorem ZvO:Zyy.S.Ok Tryz.prog 137:=Zyy.ok Tryz.func137 (by kernel_rfl) ⟨Zl9,⟨Zm9,trivial⟩⟩
noncomputable def Zy6:Fn:=⟨10,[2],[],[0],0,[],[],Tryz.f139,[.box [.slice 1,.int .i64,.bool]],[.agg [.int .i64,.slice 1,.slice 1]],[(63,F63.S),(137,Zyy.S)]⟩
theorem Zx1:Zy6.S.Ok Tryz.prog 139:=Zy6.ok Tryz.func139 (by kernel_rfl) ⟨Zm9,⟨ZvO,trivial⟩⟩
noncomputable def Zyf:Fn:=⟨84,[2],[(3,[(0,.box [.slice 1,.int .i64,.bool]),(2,.box hs30),(3,.box hs20),(5,.c (.int .i64)),(6,.c (.int .i64))]),(7,[(0,.box [.slice 1,.int .i64,.bool]),(2,.box hs30),(3,.box hs20),(22,.c (.int .i64)),(23,.c (.int .i64))]),(11,[(0,.box [.slice 1,.int .i64,.bool]),(2,.box hs30),(3,.box hs20),(34,.c (.int .i64)),(35,.c (.int .i64))]),(15,[(0,.box [.slice 1,.int .i64,.bool]),(2,.box hs30),(3,.box hs20),(49,.c (.int .i64)),(50,.c (.int .i64))]),(19,[(0,.box [.slice 1,.int .i64,.bool]),(2,.box hs30),(3,.box hs20),(64,.c (.int .i64)),(65,.c (.int .i64))])],[0],0,[],[],Tryz.f140,[.box [.slice 1,.int .i64,.bool]],[.agg hs30],[(188,Zrh.S),(187,Zyc.S),(63,F63.S),(133,ZuE.S),(132,ZyN.S),(136,Zy8.S)]⟩
theorem ZvZ:Zyf.S.Ok Tryz.prog 140:=Zyf.ok Tryz.func140 (by kernel_rfl) ⟨Zl9,⟨Zsd,⟨Zm9,⟨ZqN,⟨Zxu,⟨ZwX,trivial⟩⟩⟩⟩⟩⟩
noncomputable def ZzJ:Fn:=⟨16,[2],[],[0],0,[],[],Tryz.f138,[.box [.slice 1,.int .i64,.bool]],[.agg hs7],[(63,F63.S),(139,Zy6.S),(140,Zyf.S),(134,ZyG.S)]⟩
theorem ZB4:ZzJ.S.Ok Tryz.prog 138:=ZzJ.ok Tryz.func138 (by kernel_rfl) ⟨Zm9,⟨Zx1,⟨ZvZ,⟨Zwf,trivial⟩⟩⟩⟩
noncomputable def ZAg:Fn:=⟨18,[2],[(3,[(0,.box [.slice 1,.int .i64,.bool]),(3,.c (.own false 81)),(5,.c (.int .i64)),(6,.c (.int .i64))])],[0],0,[],[],Tryz.f141,[.box [.slice 1,.int .i64,.bool]],[.c (.own false 81)],[(188,Zrh.S),(63,F63.S)]⟩
theorem ZAM:ZAg.S.Ok Tryz.prog 141:=ZAg.ok Tryz.func141 (by kernel_rfl) ⟨Zl9,⟨Zm9,trivial⟩⟩
noncomputable def F64:Fn:=⟨112,[],[],[0,1],0,[],[],Tryz.f64,[.box [.slice 1,.int .i64,.bool],.box hs0,.c (.int .i64)],[],[(63,F63.S),(132,ZyN.S),(133,ZuE.S),(134,ZyG.S),(135,ZzW.S),(136,Zy8.S),(137,Zyy.S),(138,ZzJ.S),(139,Zy6.S),(140,Zyf.S),(141,ZAg.S)]⟩
theorem ZEb:F64.S.Ok Tryz.prog 64:=F64.ok Tryz.func64 (by kernel_rfl) ⟨Zm9,⟨Zxu,⟨ZqN,⟨Zwf,⟨ZBX,⟨ZwX,⟨ZvO,⟨ZB4,⟨Zx1,⟨ZvZ,⟨ZAM,trivial⟩⟩⟩⟩⟩⟩⟩⟩⟩⟩⟩
noncomputable def F65:Fn:=⟨10,[4],[],[],0,[],[],Tryz.f65,[.c (.slice 1),.c (.slice 1)],[.c (.bool)],[]⟩
theorem ZE0:F65.S.Ok Tryz.prog 65:=F65.ok Tryz.func65 (by kernel_rfl) trivial
noncomputable def F17:Fn:=⟨60,[2,3],[(5,[(0,.c (.slice 1)),(2,.box hs0),(4,.ptr 14 0),(5,.box hs0),(30,.c (.slice 1)),(31,.c (.int .i64)),(32,.c (.int .i64)),(14,.box [.slice 1,.int .i64,.bool])])],[],0,[],[],Tryz.f17,[.c (.slice 1)],[.agg hs0,.c (.int .i64)],[(63,F63.S),(32,F32.S),(64,F64.S),(14,F14.S),(65,F65.S)]⟩
theorem ZEz:F17.S.Ok Tryz.prog 17:=F17.ok Tryz.func17 (by kernel_rfl) ⟨Zm9,⟨ZAI,⟨ZEb,⟨ZCx,⟨ZE0,trivial⟩⟩⟩⟩⟩
noncomputable def g17 (a:LL):Option (Qt4):=F17.S.g [.l a]
end Go.Proofs.YtjldbnbdcmfbmaaGreat
