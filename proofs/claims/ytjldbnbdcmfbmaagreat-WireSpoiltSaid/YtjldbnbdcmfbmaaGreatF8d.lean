/- Functions of the program, as what they compute. -/
import Derived.Test.YtjldbnbdcmfbmaaGreatF8c
namespace Go.Proofs.YtjldbnbdcmfbmaaGreat
open Go Go.AM
set_option linter.unusedVariables false
set_option maxRecDepth 100000
noncomputable def ZvF:Fn:=⟨59,[4,5,6],[(4,[(0,.c (.slice 1)),(1,.c (.int .i64)),(4,.c (.int .u64)),(7,.c (.int .i64))])],[],0,[],[],Tryz.f131,[.c (.slice 1),.c (.int .i64)],[.c (.int .u64),.c (.int .i64),.c (.int .i64)],[]⟩
theorem Ztr:ZvF.S.Ok Tryz.prog 131:=ZvF.ok Tryz.func131 (by kernel_rfl) trivial
noncomputable def F63:Fn:=⟨38,[2],[],[0],0,[],[],Tryz.f63,[.box [.slice 1,.int .i64,.bool]],[.c (.int .i64)],[(131,ZvF.S)]⟩
theorem ZoM:F63.S.Ok Tryz.prog 63:=F63.ok Tryz.func63 (by kernel_rfl) ⟨Ztr,trivial⟩
noncomputable def ZuJ:Fn:=⟨10,[2],[],[0],0,[],[],Tryz.f133,[.box [.slice 1,.int .i64,.bool]],[.agg [.int .i64,.int .i64,.int .i64]],[(63,F63.S)]⟩
theorem Zpw:ZuJ.S.Ok Tryz.prog 133:=ZuJ.ok Tryz.func133 (by kernel_rfl) ⟨ZoM,trivial⟩
noncomputable def ZAO:Fn:=⟨29,[4,5,6],[],[],0,[],[],Tryz.f232,[.c (.slice 1),.c (.int .i64)],[.c (.int .i64),.c (.int .i64),.c (.int .i64)],[(131,ZvF.S)]⟩
theorem ZBO:ZAO.S.Ok Tryz.prog 232:=ZAO.ok Tryz.func232 (by kernel_rfl) ⟨Ztr,trivial⟩
noncomputable def ZzP:Fn:=⟨33,[2],[],[0],0,[],[],Tryz.f220,[.box [.slice 1,.int .i64,.bool]],[.c (.int .i64)],[(232,ZAO.S)]⟩
theorem Zzw:ZzP.S.Ok Tryz.prog 220:=ZzP.ok Tryz.func220 (by kernel_rfl) ⟨ZBO,trivial⟩
noncomputable def ZBr:Fn:=⟨28,[2],[],[0],0,[],[],Tryz.f186,[.box [.slice 1,.int .i64,.bool]],[.agg hs13],[(220,ZzP.S)]⟩
theorem ZzZ:ZBr.S.Ok Tryz.prog 186:=ZBr.ok Tryz.func186 (by kernel_rfl) ⟨Zzw,trivial⟩
noncomputable def Zru:Fn:=⟨22,[2],[],[0],0,[],[],Tryz.f188,[.box [.slice 1,.int .i64,.bool]],[.c (.int .i64)],[(63,F63.S)]⟩
theorem Zlz:Zru.S.Ok Tryz.prog 188:=Zru.ok Tryz.func188 (by kernel_rfl) ⟨ZoM,trivial⟩
noncomputable def ZyE:Fn:=⟨42,[4],[],[0],0,[],[],Tryz.f234,[.box [.slice 1,.int .i64,.bool],.c (.int .i64)],[.c (.int .i64)],[(131,ZvF.S)]⟩
theorem ZvD:ZyE.S.Ok Tryz.prog 234:=ZyE.ok Tryz.func234 (by kernel_rfl) ⟨Ztr,trivial⟩
noncomputable def ZBj:Fn:=⟨10,[2],[],[0],0,[],[],Tryz.f233,[.box [.slice 1,.int .i64,.bool]],[.agg [.int .i64,.int .i64,.int .i64]],[(234,ZyE.S)]⟩
theorem ZAq:ZBj.S.Ok Tryz.prog 233:=ZBj.ok Tryz.func233 (by kernel_rfl) ⟨ZvD,trivial⟩
noncomputable def ZCI:Fn:=⟨65,[2,3],[(5,[(0,.c (.slice 1)),(2,.box hs27),(4,.box hs27),(43,.c (.int .i64))])],[],0,[],[],Tryz.f235,[.c (.slice 1)],[.agg hs27,.c (.int .i64)],[(166,ZuI.S)]⟩
theorem ZzR:ZCI.S.Ok Tryz.prog 235:=ZCI.ok Tryz.func235 (by kernel_rfl) ⟨Zsc,trivial⟩
noncomputable def ZAn:Fn:=⟨52,[2,3],[(4,[(0,.c (.slice 1)),(2,.box hs16),(4,.ptr 10 0),(5,.box hs14),(15,.c (.int .i64)),(16,.c (.int .i64)),(10,.box [.slice 1,.int .i64,.bool])])],[],0,[],[],Tryz.f221,[.c (.slice 1)],[.agg hs16,.c (.int .i64)],[(233,ZBj.S),(234,ZyE.S),(235,ZCI.S),(95,F95.S)]⟩
theorem ZzX:ZAn.S.Ok Tryz.prog 221:=ZAn.ok Tryz.func221 (by kernel_rfl) ⟨ZAq,⟨ZvD,⟨ZzR,⟨Zuq,trivial⟩⟩⟩⟩
noncomputable def Zu2:Fn:=⟨50,[2],[],[0],0,[],[],Tryz.f187,[.box [.slice 1,.int .i64,.bool]],[.agg hs16],[(188,Zru.S),(221,ZAn.S)]⟩
theorem ZrP:Zu2.S.Ok Tryz.prog 187:=Zu2.ok Tryz.func187 (by kernel_rfl) ⟨Zlz,⟨ZzX,trivial⟩⟩
noncomputable def Zy8:Fn:=⟨14,[2],[],[0],0,[],[],Tryz.f132,[.box [.slice 1,.int .i64,.bool]],[.agg hs6],[(133,ZuJ.S),(186,ZBr.S),(63,F63.S),(187,Zu2.S)]⟩
theorem ZxD:Zy8.S.Ok Tryz.prog 132:=Zy8.ok Tryz.func132 (by kernel_rfl) ⟨Zpw,⟨ZzZ,⟨ZoM,⟨ZrP,trivial⟩⟩⟩⟩
noncomputable def Zyh:Fn:=⟨13,[2],[],[0],0,[],[],Tryz.f134,[.box [.slice 1,.int .i64,.bool]],[.c (.bool)],[(63,F63.S)]⟩
theorem Zwu:Zyh.S.Ok Tryz.prog 134:=Zyh.ok Tryz.func134 (by kernel_rfl) ⟨ZoM,trivial⟩
noncomputable def ZBz:Fn:=⟨15,[2],[(3,[(0,.box [.slice 1,.int .i64,.bool]),(3,.c (.own false 33)),(5,.c (.int .i64)),(6,.c (.int .i64))])],[0],0,[],[],Tryz.f135,[.box [.slice 1,.int .i64,.bool]],[.c (.own false 33)],[(188,Zru.S),(187,Zu2.S)]⟩
theorem ZBt:ZBz.S.Ok Tryz.prog 135:=ZBz.ok Tryz.func135 (by kernel_rfl) ⟨Zlz,⟨ZrP,trivial⟩⟩
noncomputable def Zy5:Fn:=⟨15,[2],[(3,[(0,.box [.slice 1,.int .i64,.bool]),(3,.c (.own false 25)),(5,.c (.int .i64)),(6,.c (.int .i64))])],[0],0,[],[],Tryz.f136,[.box [.slice 1,.int .i64,.bool]],[.c (.own false 25)],[(188,Zru.S),(133,ZuJ.S)]⟩
theorem ZxI:Zy5.S.Ok Tryz.prog 136:=Zy5.ok Tryz.func136 (by kernel_rfl) ⟨Zlz,⟨Zpw,trivial⟩⟩
noncomputable def ZyZ:Fn:=⟨15,[2],[(3,[(0,.box [.slice 1,.int .i64,.bool]),(3,.c (.own false 3)),(5,.c (.int .i64)),(6,.c (.int .i64))])],[0],0,[],[],Tryz.f137,[.box [.slice 1,.int .i64,.bool]],[.c (.own false 3)],[(188,Zru.S),(63,F63.S)]⟩
theorem ZvX:ZyZ.S.Ok Tryz.prog 137:=ZyZ.ok Tryz.func137 (by kernel_rfl) ⟨Zlz,⟨ZoM,trivial⟩⟩
noncomputable def Zyi:Fn:=⟨10,[2],[],[0],0,[],[],Tryz.f139,[.box [.slice 1,.int .i64,.bool]],[.agg [.int .i64,.slice 1,.slice 1]],[(63,F63.S),(137,ZyZ.S)]⟩
theorem Zwf:Zyi.S.Ok Tryz.prog 139:=Zyi.ok Tryz.func139 (by kernel_rfl) ⟨ZoM,⟨ZvX,trivial⟩⟩
noncomputable def ZyV:Fn:=⟨84,[2],[(3,[(0,.box [.slice 1,.int .i64,.bool]),(2,.box hs30),(3,.box hs20),(5,.c (.int .i64)),(6,.c (.int .i64))]),(7,[(0,.box [.slice 1,.int .i64,.bool]),(2,.box hs30),(3,.box hs20),(22,.c (.int .i64)),(23,.c (.int .i64))]),(11,[(0,.box [.slice 1,.int .i64,.bool]),(2,.box hs30),(3,.box hs20),(34,.c (.int .i64)),(35,.c (.int .i64))]),(15,[(0,.box [.slice 1,.int .i64,.bool]),(2,.box hs30),(3,.box hs20),(49,.c (.int .i64)),(50,.c (.int .i64))]),(19,[(0,.box [.slice 1,.int .i64,.bool]),(2,.box hs30),(3,.box hs20),(64,.c (.int .i64)),(65,.c (.int .i64))])],[0],0,[],[],Tryz.f140,[.box [.slice 1,.int .i64,.bool]],[.agg hs30],[(188,Zru.S),(187,Zu2.S),(63,F63.S),(133,ZuJ.S),(132,Zy8.S),(136,Zy5.S)]⟩
theorem Zv7:ZyV.S.Ok Tryz.prog 140:=ZyV.ok Tryz.func140 (by kernel_rfl) ⟨Zlz,⟨ZrP,⟨ZoM,⟨Zpw,⟨ZxD,⟨ZxI,trivial⟩⟩⟩⟩⟩⟩
noncomputable def ZCt:Fn:=⟨16,[2],[],[0],0,[],[],Tryz.f138,[.box [.slice 1,.int .i64,.bool]],[.agg hs7],[(63,F63.S),(139,Zyi.S),(140,ZyV.S),(134,Zyh.S)]⟩
theorem ZAI:ZCt.S.Ok Tryz.prog 138:=ZCt.ok Tryz.func138 (by kernel_rfl) ⟨ZoM,⟨Zwf,⟨Zv7,⟨Zwu,trivial⟩⟩⟩⟩
noncomputable def ZA9:Fn:=⟨18,[2],[(3,[(0,.box [.slice 1,.int .i64,.bool]),(3,.c (.own false 81)),(5,.c (.int .i64)),(6,.c (.int .i64))])],[0],0,[],[],Tryz.f141,[.box [.slice 1,.int .i64,.bool]],[.c (.own false 81)],[(188,Zru.S),(63,F63.S)]⟩
theorem ZCE:ZA9.S.Ok Tryz.prog 141:=ZA9.ok Tryz.func141 (by kernel_rfl) ⟨Zlz,⟨ZoM,trivial⟩⟩
noncomputable def F64:Fn:=⟨112,[],[],[0,1],0,[],[],Tryz.f64,[.box [.slice 1,.int .i64,.bool],.box hs0,.c (.int .i64)],[],[(63,F63.S),(132,Zy8.S),(133,ZuJ.S),(134,Zyh.S),(135,ZBz.S),(136,Zy5.S),(137,ZyZ.S),(138,ZCt.S),(139,Zyi.S),(140,ZyV.S),(141,ZA9.S)]⟩
theorem ZEt:F64.S.Ok Tryz.prog 64:=F64.ok Tryz.func64 (by kernel_rfl) ⟨ZoM,⟨ZxD,⟨Zpw,⟨Zwu,⟨ZBt,⟨ZxI,⟨ZvX,⟨ZAI,⟨Zwf,⟨Zv7,⟨ZCE,trivial⟩⟩⟩⟩⟩⟩⟩⟩⟩⟩⟩
noncomputable def F65:Fn:=⟨10,[4],[],[],0,[],[],Tryz.f65,[.c (.slice 1),.c (.slice 1)],[.c (.bool)],[]⟩
theorem ZE7:F65.S.Ok Tryz.prog 65:=F65.ok Tryz.func65 (by kernel_rfl) trivial
noncomputable def F17:Fn:=⟨60,[2,3],[(5,[(0,.c (.slice 1)),(2,.box hs0),(4,.ptr 14 0),(5,.box hs0),(30,.c (.slice 1)),(31,.c (.int .i64)),(32,.c (.int .i64)),(14,.box [.slice 1,.int .i64,.bool])])],[],0,[],[],Tryz.f17,[.c (.slice 1)],[.agg hs0,.c (.int .i64)],[(63,F63.S),(32,F32.S),(64,F64.S),(14,F14.S),(65,F65.S)]⟩
theorem ZFi:F17.S.Ok Tryz.prog 17:=F17.ok Tryz.func17 (by kernel_rfl) ⟨ZoM,⟨ZCj,⟨ZEt,⟨ZAX,⟨ZE7,trivial⟩⟩⟩⟩⟩
noncomputable def g17 (a:LL):Option (Qt4):=F17.S.g [.l a]
end Go.Proofs.YtjldbnbdcmfbmaaGreat
