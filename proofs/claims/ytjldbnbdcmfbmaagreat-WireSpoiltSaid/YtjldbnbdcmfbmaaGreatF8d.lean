/- Functions of the program, as what they compute. -/
import Derived.Test.YtjldbnbdcmfbmaaGreatF8c
namespace Go.Proofs.YtjldbnbdcmfbmaaGreat
open Go Go.AM
set_option linter.unusedVariables false
set_option maxRecDepth 100000
noncomputable def Zxa:Fn:=⟨59,[4,5,6],[(4,[(0,.c (.slice 1)),(1,.c (.int .i64)),(4,.c (.int .u64)),(7,.c (.int .i64))])],[],0,[],[],Tryz.f131,[.c (.slice 1),.c (.int .i64)],[.c (.int .u64),.c (.int .i64),.c (.int .i64)],[]⟩
theorem Zs3:Zxa.S.Ok Tryz.prog 131:=Zxa.ok Tryz.func131 (by kernel_rfl) trivial
noncomputable def F63:Fn:=⟨38,[2],[],[0],0,[],[],Tryz.f63,[.box [.slice 1,.int .i64,.bool]],[.c (.int .i64)],[(131,Zxa.S)]⟩
theorem ZmF:F63.S.Ok Tryz.prog 63:=F63.ok Tryz.func63 (by kernel_rfl) ⟨Zs3,trivial⟩
noncomputable def Zuz:Fn:=⟨10,[2],[],[0],0,[],[],Tryz.f133,[.box [.slice 1,.int .i64,.bool]],[.agg [.int .i64,.int .i64,.int .i64]],[(63,F63.S)]⟩
theorem ZqW:Zuz.S.Ok Tryz.prog 133:=Zuz.ok Tryz.func133 (by kernel_rfl) ⟨ZmF,trivial⟩
noncomputable def ZAd:Fn:=⟨29,[4,5,6],[],[],0,[],[],Tryz.f232,[.c (.slice 1),.c (.int .i64)],[.c (.int .i64),.c (.int .i64),.c (.int .i64)],[(131,Zxa.S)]⟩
theorem ZBs:ZAd.S.Ok Tryz.prog 232:=ZAd.ok Tryz.func232 (by kernel_rfl) ⟨Zs3,trivial⟩
noncomputable def ZBB:Fn:=⟨33,[2],[],[0],0,[],[],Tryz.f220,[.box [.slice 1,.int .i64,.bool]],[.c (.int .i64)],[(232,ZAd.S)]⟩
theorem ZAs:ZBB.S.Ok Tryz.prog 220:=ZBB.ok Tryz.func220 (by kernel_rfl) ⟨ZBs,trivial⟩
noncomputable def ZB9:Fn:=⟨28,[2],[],[0],0,[],[],Tryz.f186,[.box [.slice 1,.int .i64,.bool]],[.agg hs13],[(220,ZBB.S)]⟩
theorem ZAH:ZB9.S.Ok Tryz.prog 186:=ZB9.ok Tryz.func186 (by kernel_rfl) ⟨ZAs,trivial⟩
noncomputable def Zra:Fn:=⟨22,[2],[],[0],0,[],[],Tryz.f188,[.box [.slice 1,.int .i64,.bool]],[.c (.int .i64)],[(63,F63.S)]⟩
theorem Zl2:Zra.S.Ok Tryz.prog 188:=Zra.ok Tryz.func188 (by kernel_rfl) ⟨ZmF,trivial⟩
noncomputable def Zyq:Fn:=⟨42,[4],[],[0],0,[],[],Tryz.f234,[.box [.slice 1,.int .i64,.bool],.c (.int .i64)],[.c (.int .i64)],[(131,Zxa.S)]⟩
theorem Zx8:Zyq.S.Ok Tryz.prog 234:=Zyq.ok Tryz.func234 (by kernel_rfl) ⟨Zs3,trivial⟩
noncomputable def ZCo:Fn:=⟨10,[2],[],[0],0,[],[],Tryz.f233,[.box [.slice 1,.int .i64,.bool]],[.agg [.int .i64,.int .i64,.int .i64]],[(234,Zyq.S)]⟩
theorem Zzt:ZCo.S.Ok Tryz.prog 233:=ZCo.ok Tryz.func233 (by kernel_rfl) ⟨Zx8,trivial⟩
noncomputable def ZCK:Fn:=⟨65,[2,3],[(5,[(0,.c (.slice 1)),(2,.box hs27),(4,.box hs27),(43,.c (.int .i64))])],[],0,[],[],Tryz.f235,[.c (.slice 1)],[.agg hs27,.c (.int .i64)],[(166,Zuo.S)]⟩
theorem ZB8:ZCK.S.Ok Tryz.prog 235:=ZCK.ok Tryz.func235 (by kernel_rfl) ⟨Zt8,trivial⟩
noncomputable def ZAC:Fn:=⟨52,[2,3],[(4,[(0,.c (.slice 1)),(2,.box hs16),(4,.ptr 10 0),(5,.box hs14),(15,.c (.int .i64)),(16,.c (.int .i64)),(10,.box [.slice 1,.int .i64,.bool])])],[],0,[],[],Tryz.f221,[.c (.slice 1)],[.agg hs16,.c (.int .i64)],[(233,ZCo.S),(234,Zyq.S),(235,ZCK.S),(95,F95.S)]⟩
theorem ZAj:ZAC.S.Ok Tryz.prog 221:=ZAC.ok Tryz.func221 (by kernel_rfl) ⟨Zzt,⟨Zx8,⟨ZB8,⟨Zur,trivial⟩⟩⟩⟩
noncomputable def Zx5:Fn:=⟨50,[2],[],[0],0,[],[],Tryz.f187,[.box [.slice 1,.int .i64,.bool]],[.agg hs16],[(188,Zra.S),(221,ZAC.S)]⟩
theorem ZtJ:Zx5.S.Ok Tryz.prog 187:=Zx5.ok Tryz.func187 (by kernel_rfl) ⟨Zl2,⟨ZAj,trivial⟩⟩
noncomputable def Zy4:Fn:=⟨14,[2],[],[0],0,[],[],Tryz.f132,[.box [.slice 1,.int .i64,.bool]],[.agg hs6],[(133,Zuz.S),(186,ZB9.S),(63,F63.S),(187,Zx5.S)]⟩
theorem Zvl:Zy4.S.Ok Tryz.prog 132:=Zy4.ok Tryz.func132 (by kernel_rfl) ⟨ZqW,⟨ZAH,⟨ZmF,⟨ZtJ,trivial⟩⟩⟩⟩
noncomputable def ZyR:Fn:=⟨13,[2],[],[0],0,[],[],Tryz.f134,[.box [.slice 1,.int .i64,.bool]],[.c (.bool)],[(63,F63.S)]⟩
theorem ZwE:ZyR.S.Ok Tryz.prog 134:=ZyR.ok Tryz.func134 (by kernel_rfl) ⟨ZmF,trivial⟩
noncomputable def ZAJ:Fn:=⟨15,[2],[(3,[(0,.box [.slice 1,.int .i64,.bool]),(3,.c (.own false 33)),(5,.c (.int .i64)),(6,.c (.int .i64))])],[0],0,[],[],Tryz.f135,[.box [.slice 1,.int .i64,.bool]],[.c (.own false 33)],[(188,Zra.S),(187,Zx5.S)]⟩
theorem ZAi:ZAJ.S.Ok Tryz.prog 135:=ZAJ.ok Tryz.func135 (by kernel_rfl) ⟨Zl2,⟨ZtJ,trivial⟩⟩
noncomputable def Zy5:Fn:=⟨15,[2],[(3,[(0,.box [.slice 1,.int .i64,.bool]),(3,.c (.own false 25)),(5,.c (.int .i64)),(6,.c (.int .i64))])],[0],0,[],[],Tryz.f136,[.box [.slice 1,.int .i64,.bool]],[.c (.own false 25)],[(188,Zra.S),(133,Zuz.S)]⟩
theorem ZwP:Zy5.S.Ok Tryz.prog 136:=Zy5.ok Tryz.func136 (by kernel_rfl) ⟨Zl2,⟨ZqW,trivial⟩⟩
noncomputable def Zyh:Fn:=⟨15,[2],[(3,[(0,.box [.slice 1,.int .i64,.bool]),(3,.c (.own false 3)),(5,.c (.int .i64)),(6,.c (.int .i64))])],[0],0,[],[],Tryz.f137,[.box [.slice 1,.int .i64,.bool]],[.c (.own false 3)],[(188,Zra.S),(63,F63.S)]⟩
theorem Zvs:Zyh.S.Ok Tryz.prog 137:=Zyh.ok Tryz.func137 (by kernel_rfl) ⟨Zl2,⟨ZmF,trivial⟩⟩
noncomputable def Zza:Fn:=⟨10,[2],[],[0],0,[],[],Tryz.f139,[.box [.slice 1,.int .i64,.bool]],[.agg [.int .i64,.slice 1,.slice 1]],[(63,F63.S),(137,Zyh.S)]⟩
theorem Zxz:Zza.S.Ok Tryz.prog 139:=Zza.ok Tryz.func139 (by kernel_rfl) ⟨ZmF,⟨Zvs,trivial⟩⟩
noncomputable def Zy7:Fn:=⟨84,[2],[(3,[(0,.box [.slice 1,.int .i64,.bool]),(2,.box hs30),(3,.box hs20),(5,.c (.int .i64)),(6,.c (.int .i64))]),(7,[(0,.box [.slice 1,.int .i64,.bool]),(2,.box hs30),(3,.box hs20),(22,.c (.int .i64)),(23,.c (.int .i64))]),(11,[(0,.box [.slice 1,.int .i64,.bool]),(2,.box hs30),(3,.box hs20),(34,.c (.int .i64)),(35,.c (.int .i64))]),(15,[(0,.box [.slice 1,.int .i64,.bool]),(2,.box hs30),(3,.box hs20),(49,.c (.int .i64)),(50,.c (.int .i64))]),(19,[(0,.box [.slice 1,.int .i64,.bool]),(2,.box hs30),(3,.box hs20),(64,.c (.int .i64)),(65,.c (.int .i64))])],[0],0,[],[],Tryz.f140,[.box [.slice 1,.int .i64,.bool]],[.agg hs30],[(188,Zra.S),(187,Zx5.S),(63,F63.S),(133,Zuz.S),(132,Zy4.S),(136,Zy5.S)]⟩
theorem ZxL:Zy7.S.Ok Tryz.prog 140:=Zy7.ok Tryz.func140 (by kernel_rfl) ⟨Zl2,⟨ZtJ,⟨ZmF,⟨ZqW,⟨Zvl,⟨ZwP,trivial⟩⟩⟩⟩⟩⟩
noncomputable def ZAV:Fn:=⟨16,[2],[],[0],0,[],[],Tryz.f138,[.box [.slice 1,.int .i64,.bool]],[.agg hs7],[(63,F63.S),(139,Zza.S),(140,Zy7.S),(134,ZyR.S)]⟩
theorem ZBn:ZAV.S.Ok Tryz.prog 138:=ZAV.ok Tryz.func138 (by kernel_rfl) ⟨ZmF,⟨Zxz,⟨ZxL,⟨ZwE,trivial⟩⟩⟩⟩
noncomputable def ZBk:Fn:=⟨18,[2],[(3,[(0,.box [.slice 1,.int .i64,.bool]),(3,.c (.own false 81)),(5,.c (.int .i64)),(6,.c (.int .i64))])],[0],0,[],[],Tryz.f141,[.box [.slice 1,.int .i64,.bool]],[.c (.own false 81)],[(188,Zra.S),(63,F63.S)]⟩
theorem Zz8:ZBk.S.Ok Tryz.prog 141:=ZBk.ok Tryz.func141 (by kernel_rfl) ⟨Zl2,⟨ZmF,trivial⟩⟩
noncomputable def F64:Fn:=⟨112,[],[],[0,1],0,[],[],Tryz.f64,[.box [.slice 1,.int .i64,.bool],.box hs0,.c (.int .i64)],[],[(63,F63.S),(132,Zy4.S),(133,Zuz.S),(134,ZyR.S),(135,ZAJ.S),(136,Zy5.S),(137,Zyh.S),(138,ZAV.S),(139,Zza.S),(140,Zy7.S),(141,ZBk.S)]⟩
theorem ZEG:F64.S.Ok Tryz.prog 64:=F64.ok Tryz.func64 (by kernel_rfl) ⟨ZmF,⟨Zvl,⟨ZqW,⟨ZwE,⟨ZAi,⟨ZwP,⟨Zvs,⟨ZBn,⟨Zxz,⟨ZxL,⟨Zz8,trivial⟩⟩⟩⟩⟩⟩⟩⟩⟩⟩⟩
noncomputable def F65:Fn:=⟨10,[4],[],[],0,[],[],Tryz.f65,[.c (.slice 1),.c (.slice 1)],[.c (.bool)],[]⟩
theorem ZEL:F65.S.Ok Tryz.prog 65:=F65.ok Tryz.func65 (by kernel_rfl) trivial
noncomputable def F17:Fn:=⟨60,[2,3],[(5,[(0,.c (.slice 1)),(2,.box hs0),(4,.ptr 14 0),(5,.box hs0),(30,.c (.slice 1)),(31,.c (.int .i64)),(32,.c (.int .i64)),(14,.box [.slice 1,.int .i64,.bool])])],[],0,[],[],Tryz.f17,[.c (.slice 1)],[.agg hs0,.c (.int .i64)],[(63,F63.S),(32,F32.S),(64,F64.S),(14,F14.S),(65,F65.S)]⟩
theorem ZD2:F17.S.Ok Tryz.prog 17:=F17.ok Tryz.func17 (by kernel_rfl) ⟨ZmF,⟨ZA8,⟨ZEG,⟨Zzz,⟨ZEL,trivial⟩⟩⟩⟩⟩
noncomputable def g17 (a:LL):Option (Qt4):=F17.S.g [.l a]
end Go.Proofs.YtjldbnbdcmfbmaaGreat
