/- BVh, AmRow, AmLift, EndY: texts of the proof, put together. -/
import Derived.Test.YtlgmnddelljbmaaGreatFVg
import Derived.Test.YtlgmnddelljbmaaGreatM4
import Derived.ChangeArms
import Derived.ChangeStays
import Derived.ChangeBook
import Derived.ChangeSame
import Derived.RowKit
import Derived.ChangeOld
import GoSem.ClaimJoined
import GoSem.ClaimOpenFrom
import Derived.KernelRfl
import Derived.Test.YtlgmnddelljbmaaGreatRows
import Derived.Test.YtlgmnddelljbmaaGreatChecked
import Derived.JoinedOf
import Derived.JoinedAt
import Derived.RowKit3

section
namespace Go.Proofs.YtlgmnddelljbmaaGreat
open Go Go.AM
set_option linter.unusedVariables false
set_option maxRecDepth 100000
set_option synthInstance.maxSize 2000
noncomputable def F96:Fn:=⟨44,[2,3],[],[],0,[],[],Tryz.f96,[.c (.int .i64)],[.c (.own false 160),.c (.bool)],[]⟩
theorem Zvh:F96.S.Ok Tryz.prog 96:=F96.ok Tryz.func96 (by kernel_rfl) trivial
noncomputable def F97:Fn:=⟨9,[2],[],[],0,[],[],Tryz.f97,[.c (.int .i64)],[.c (.bool)],[]⟩
theorem ZtY:F97.S.Ok Tryz.prog 97:=F97.ok Tryz.func97 (by kernel_rfl) trivial
noncomputable def F98:Fn:=⟨9,[2],[],[],0,[],[],Tryz.f98,[.c (.int .i64)],[.c (.bool)],[]⟩
theorem Zna:F98.S.Ok Tryz.prog 98:=F98.ok Tryz.func98 (by kernel_rfl) trivial
noncomputable def g98 (x0:Int):Option (Bool):=F98.S.g [.i x0]
noncomputable def ZrV:Fn:=⟨9,[2],[],[],0,[],[],Tryz.f161,[.c (.int .i64)],[.c (.bool)],[]⟩
theorem ZpX:ZrV.S.Ok Tryz.prog 161:=ZrV.ok Tryz.func161 (by kernel_rfl) trivial
noncomputable def Zq8:Fn:=⟨9,[2],[],[],0,[],[],Tryz.f164,[.c (.int .i64)],[.c (.bool)],[]⟩
theorem ZoU:Zq8.S.Ok Tryz.prog 164:=Zq8.ok Tryz.func164 (by kernel_rfl) trivial
noncomputable def ZtQ:Fn:=⟨19,[4],[(2,[(0,.c (.slice 1)),(1,.c (.int .i64)),(7,.c (.int .i64)),(8,.c (.int .i64))])],[],0,[],[],Tryz.f230,[.c (.slice 1),.c (.int .i64)],[.c (.int .i64)],[]⟩
theorem Zuk:ZtQ.S.Ok Tryz.prog 230:=ZtQ.ok Tryz.func230 (by kernel_rfl) trivial
noncomputable def Zue:Fn:=⟨9,[4],[],[],0,[],[],Tryz.f212,[.c (.slice 1),.c (.int .i64)],[.c (.bool)],[(230,ZtQ.S)]⟩
theorem ZtO:Zue.S.Ok Tryz.prog 212:=Zue.ok Tryz.func212 (by kernel_rfl) ⟨Zuk,trivial⟩
noncomputable def Ztp:Fn:=⟨6,[2],[],[],0,[],[],Tryz.f213,[.c (.int .i64)],[.c (.bool)],[(98,F98.S)]⟩
theorem Zsc:Ztp.S.Ok Tryz.prog 213:=Ztp.ok Tryz.func213 (by kernel_rfl) ⟨Zna,trivial⟩
noncomputable def ZdJ:Fn:=⟨19,[4],[(2,[(0,.c (.slice 1)),(1,.clo 213 []),(7,.c (.int .i64)),(8,.c (.int .i64))])],[],0,[],[],Tryz.f211,[.c (.slice 1),.clo 213 []],[.c (.int .i64)],[(213,Ztp.S)]⟩
theorem Zi4:ZdJ.S.Ok Tryz.prog 211:=ZdJ.ok Tryz.func211 (by kernel_rfl) ⟨Zsc,trivial⟩
noncomputable def Zdy:Fn:=⟨9,[4],[],[],0,[],[],Tryz.f167,[.c (.slice 1),.clo 213 []],[.c (.bool)],[(211,ZdJ.S)]⟩
theorem ZjB:Zdy.S.Ok Tryz.prog 167:=Zdy.ok Tryz.func167 (by kernel_rfl) ⟨Zi4,trivial⟩
noncomputable def Zra:Fn:=⟨45,[2],[(4,[(1,.box [.int .i64,.slice 1,.slice 1]),(22,.c (.slice 1)),(23,.c (.int .i64)),(24,.c (.int .i64))])],[],0,[],[],Tryz.f172,[.agg [.int .i64,.slice 1,.slice 1]],[.c (.bool)],[(97,F97.S),(98,F98.S),(212,Zue.S),(167,Zdy.S)]⟩
theorem Zpm:Zra.S.Ok Tryz.prog 172:=Zra.ok Tryz.func172 (by kernel_rfl) ⟨ZtY,⟨Zna,⟨ZtO,⟨ZjB,trivial⟩⟩⟩⟩
noncomputable def Zrk:Fn:=⟨8,[2],[],[],0,[],[],Tryz.f247,[.agg hs17],[.c (.bool)],[]⟩
theorem Zq2:Zrk.S.Ok Tryz.prog 247:=Zrk.ok Tryz.func247 (by kernel_rfl) trivial
noncomputable def Zuq:Fn:=⟨43,[2],[],[],0,[],[],Tryz.f231,[.agg hs17],[.c (.bool)],[(247,Zrk.S),(92,F92.S),(93,F93.S),(150,Zms.S)]⟩
theorem Zs1:Zuq.S.Ok Tryz.prog 231:=Zuq.ok Tryz.func231 (by kernel_rfl) ⟨Zq2,⟨Zt7,⟨ZqT,⟨Zjq,trivial⟩⟩⟩⟩
noncomputable def Zua:Fn:=⟨27,[4,5],[(2,[(3,.box [.int .i64,.int .i64,.int .i64]),(8,.c (.slice 15)),(9,.c (.int .i64)),(10,.c (.int .i64))])],[],0,[],[],Tryz.f232,[.c (.slice 15),.agg [.int .i64,.int .i64,.int .i64]],[.c (.int .i64),.c (.bool)],[(247,Zrk.S)]⟩
theorem Ztx:Zua.S.Ok Tryz.prog 232:=Zua.ok Tryz.func232 (by kernel_rfl) ⟨Zq2,trivial⟩
noncomputable def Zs7:Fn:=⟨32,[2],[(4,[(0,.c (.slice 15)),(10,.c (.slice 15)),(11,.c (.int .i64)),(12,.c (.int .i64))])],[],0,[],[],Tryz.f214,[.c (.slice 15)],[.c (.bool)],[(231,Zuq.S),(232,Zua.S)]⟩
theorem Zus:Zs7.S.Ok Tryz.prog 214:=Zs7.ok Tryz.func214 (by kernel_rfl) ⟨Zs1,⟨Ztx,trivial⟩⟩
noncomputable def ZtL:Fn:=⟨6,[2],[],[],0,[],[],Tryz.f233,[.agg hs7],[.c (.bool)],[(42,F42.S)]⟩
theorem Ztz:ZtL.S.Ok Tryz.prog 233:=ZtL.ok Tryz.func233 (by kernel_rfl) ⟨ZtF,trivial⟩
noncomputable def Zga:Fn:=⟨19,[4],[(2,[(0,.c (.slice 28)),(1,.clo 233 []),(7,.c (.int .i64)),(8,.c (.int .i64))])],[],0,[],[],Tryz.f89,[.c (.slice 28),.clo 233 []],[.c (.int .i64)],[(233,ZtL.S)]⟩
theorem ZkY:Zga.S.Ok Tryz.prog 89:=Zga.ok Tryz.func89 (by kernel_rfl) ⟨Ztz,trivial⟩
noncomputable def ZfD:Fn:=⟨9,[4],[],[],0,[],[],Tryz.f40,[.c (.slice 28),.clo 233 []],[.c (.bool)],[(89,Zga.S)]⟩
theorem ZlV:ZfD.S.Ok Tryz.prog 40:=ZfD.ok Tryz.func40 (by kernel_rfl) ⟨ZkY,trivial⟩
noncomputable def Zsx:Fn:=⟨17,[5],[],[2],0,[],[],Tryz.f234,[.c (.int .i64),.c (.int .i64),.box [.slice 28]],[.c (.bool)],[(86,F86.S)]⟩
theorem Ztr:Zsx.S.Ok Tryz.prog 234:=Zsx.ok Tryz.func234 (by kernel_rfl) ⟨Zte,trivial⟩
noncomputable def ZdD:Fn:=⟨17,[4],[(2,[(0,.c (.int .i64)),(1,.clo 234 [17]),(5,.c (.int .i64)),(17,.gbox [.slice 28])])],[],1,[],[],Tryz.f169,[.c (.int .i64),.clo 234 [17],.dead,.dead,.dead,.dead,.dead,.dead,.dead,.dead,.dead,.dead,.dead,.dead,.dead,.dead,.dead,.gbox [.slice 28]],[.c (.bool)],[(234,Zsx.S)]⟩
theorem ZjV:ZdD.S.Ok Tryz.prog 169:=ZdD.ok Tryz.func169 (by kernel_rfl) ⟨Ztr,trivial⟩
noncomputable def Zur:Fn:=⟨12,[2],[],[],0,[],[],Tryz.f215,[.c (.slice 28)],[.c (.bool)],[(40,ZfD.S),(169,ZdD.S)]⟩
theorem Zso:Zur.S.Ok Tryz.prog 215:=Zur.ok Tryz.func215 (by kernel_rfl) ⟨ZlV,⟨ZjV,trivial⟩⟩
noncomputable def Zt2:Fn:=⟨13,[2],[],[],0,[],[],Tryz.f236,[.agg [.int .i64,.int .i64,.int .i64,.int .i64]],[.c (.bool)],[(91,F91.S),(90,F90.S)]⟩
theorem ZsQ:Zt2.S.Ok Tryz.prog 236:=Zt2.ok Tryz.func236 (by kernel_rfl) ⟨ZrR,⟨ZrJ,trivial⟩⟩
noncomputable def Zdq:Fn:=⟨19,[4],[(2,[(0,.c (.slice 4)),(1,.clo 236 []),(7,.c (.int .i64)),(8,.c (.int .i64))])],[],0,[],[],Tryz.f248,[.c (.slice 4),.clo 236 []],[.c (.int .i64)],[(236,Zt2.S)]⟩
theorem Zi6:Zdq.S.Ok Tryz.prog 248:=Zdq.ok Tryz.func248 (by kernel_rfl) ⟨ZsQ,trivial⟩
noncomputable def Zda:Fn:=⟨9,[4],[],[],0,[],[],Tryz.f235,[.c (.slice 4),.clo 236 []],[.c (.bool)],[(248,Zdq.S)]⟩
theorem Zky:Zda.S.Ok Tryz.prog 235:=Zda.ok Tryz.func235 (by kernel_rfl) ⟨Zi6,trivial⟩
noncomputable def ZsJ:Fn:=⟨17,[5],[],[2],0,[],[],Tryz.f237,[.c (.int .i64),.c (.int .i64),.box [.slice 4]],[.c (.bool)],[]⟩
theorem Zun:ZsJ.S.Ok Tryz.prog 237:=ZsJ.ok Tryz.func237 (by kernel_rfl) trivial
noncomputable def ZdF:Fn:=⟨17,[4],[(2,[(0,.c (.int .i64)),(1,.clo 237 [17]),(5,.c (.int .i64)),(17,.gbox [.slice 4])])],[],1,[],[],Tryz.f169,[.c (.int .i64),.clo 237 [17],.dead,.dead,.dead,.dead,.dead,.dead,.dead,.dead,.dead,.dead,.dead,.dead,.dead,.dead,.dead,.gbox [.slice 4]],[.c (.bool)],[(237,ZsJ.S)]⟩
theorem Zkl:ZdF.S.Ok Tryz.prog 169:=ZdF.ok Tryz.func169 (by kernel_rfl) ⟨Zun,trivial⟩
noncomputable def Zsb:Fn:=⟨12,[2],[],[],0,[],[],Tryz.f216,[.c (.slice 4)],[.c (.bool)],[(235,Zda.S),(169,ZdF.S)]⟩
theorem Ztq:Zsb.S.Ok Tryz.prog 216:=Zsb.ok Tryz.func216 (by kernel_rfl) ⟨Zky,⟨Zkl,trivial⟩⟩
noncomputable def ZtK:Fn:=⟨17,[2],[],[],0,[],[],Tryz.f239,[.agg [.int .i64,.int .i64]],[.c (.bool)],[(161,ZrV.S)]⟩
theorem Zs5:ZtK.S.Ok Tryz.prog 239:=ZtK.ok Tryz.func239 (by kernel_rfl) ⟨ZpX,trivial⟩
noncomputable def ZdG:Fn:=⟨19,[4],[(2,[(0,.c (.slice 2)),(1,.clo 239 []),(7,.c (.int .i64)),(8,.c (.int .i64))])],[],0,[],[],Tryz.f249,[.c (.slice 2),.clo 239 []],[.c (.int .i64)],[(239,ZtK.S)]⟩
theorem Zj7:ZdG.S.Ok Tryz.prog 249:=ZdG.ok Tryz.func249 (by kernel_rfl) ⟨Zs5,trivial⟩
noncomputable def ZdA:Fn:=⟨9,[4],[],[],0,[],[],Tryz.f238,[.c (.slice 2),.clo 239 []],[.c (.bool)],[(249,ZdG.S)]⟩
theorem ZjT:ZdA.S.Ok Tryz.prog 238:=ZdA.ok Tryz.func238 (by kernel_rfl) ⟨Zj7,trivial⟩
noncomputable def ZtG:Fn:=⟨17,[5],[],[2],0,[],[],Tryz.f240,[.c (.int .i64),.c (.int .i64),.box [.slice 2]],[.c (.bool)],[]⟩
theorem Zui:ZtG.S.Ok Tryz.prog 240:=ZtG.ok Tryz.func240 (by kernel_rfl) trivial
noncomputable def ZdQ:Fn:=⟨17,[4],[(2,[(0,.c (.int .i64)),(1,.clo 240 [17]),(5,.c (.int .i64)),(17,.gbox [.slice 2])])],[],1,[],[],Tryz.f169,[.c (.int .i64),.clo 240 [17],.dead,.dead,.dead,.dead,.dead,.dead,.dead,.dead,.dead,.dead,.dead,.dead,.dead,.dead,.dead,.gbox [.slice 2]],[.c (.bool)],[(240,ZtG.S)]⟩
theorem Zi3:ZdQ.S.Ok Tryz.prog 169:=ZdQ.ok Tryz.func169 (by kernel_rfl) ⟨Zui,trivial⟩
noncomputable def Zsp:Fn:=⟨12,[2],[],[],0,[],[],Tryz.f217,[.c (.slice 2)],[.c (.bool)],[(238,ZdA.S),(169,ZdQ.S)]⟩
theorem Zsj:Zsp.S.Ok Tryz.prog 217:=Zsp.ok Tryz.func217 (by kernel_rfl) ⟨ZjT,⟨Zi3,trivial⟩⟩
noncomputable def Zr1:Fn:=⟨19,[2],[],[],0,[],[],Tryz.f242,[.agg hs18],[.c (.bool)],[(98,F98.S),(164,Zq8.S),(93,F93.S)]⟩
theorem Zud:Zr1.S.Ok Tryz.prog 242:=Zr1.ok Tryz.func242 (by kernel_rfl) ⟨Zna,⟨ZoU,⟨ZqT,trivial⟩⟩⟩
noncomputable def Zc7:Fn:=⟨19,[4],[(2,[(0,.c (.slice 13)),(1,.clo 242 []),(7,.c (.int .i64)),(8,.c (.int .i64))])],[],0,[],[],Tryz.f250,[.c (.slice 13),.clo 242 []],[.c (.int .i64)],[(242,Zr1.S)]⟩
theorem ZkJ:Zc7.S.Ok Tryz.prog 250:=Zc7.ok Tryz.func250 (by kernel_rfl) ⟨Zud,trivial⟩
noncomputable def Zdc:Fn:=⟨9,[4],[],[],0,[],[],Tryz.f241,[.c (.slice 13),.clo 242 []],[.c (.bool)],[(250,Zc7.S)]⟩
theorem Zis:Zdc.S.Ok Tryz.prog 241:=Zdc.ok Tryz.func241 (by kernel_rfl) ⟨ZkJ,trivial⟩
noncomputable def Zup:Fn:=⟨19,[5],[],[2],0,[],[],Tryz.f243,[.c (.int .i64),.c (.int .i64),.box [.slice 13]],[.c (.bool)],[(86,F86.S)]⟩
theorem ZsK:Zup.S.Ok Tryz.prog 243:=Zup.ok Tryz.func243 (by kernel_rfl) ⟨Zte,trivial⟩
noncomputable def ZdU:Fn:=⟨17,[4],[(2,[(0,.c (.int .i64)),(1,.clo 243 [17]),(5,.c (.int .i64)),(17,.gbox [.slice 13])])],[],1,[],[],Tryz.f169,[.c (.int .i64),.clo 243 [17],.dead,.dead,.dead,.dead,.dead,.dead,.dead,.dead,.dead,.dead,.dead,.dead,.dead,.dead,.dead,.gbox [.slice 13]],[.c (.bool)],[(243,Zup.S)]⟩
theorem ZiE:ZdU.S.Ok Tryz.prog 169:=ZdU.ok Tryz.func169 (by kernel_rfl) ⟨ZsK,trivial⟩
noncomputable def Zuu:Fn:=⟨12,[2],[],[],0,[],[],Tryz.f218,[.c (.slice 13)],[.c (.bool)],[(241,Zdc.S),(169,ZdU.S)]⟩
theorem Ztu:Zuu.S.Ok Tryz.prog 218:=Zuu.ok Tryz.func218 (by kernel_rfl) ⟨Zis,⟨ZiE,trivial⟩⟩
noncomputable def Ztt:Fn:=⟨6,[2],[],[],0,[],[],Tryz.f219,[.agg [.int .i64,.int .i64,.int .i64]],[.c (.bool)],[(90,F90.S)]⟩
theorem Zty:Ztt.S.Ok Tryz.prog 219:=Ztt.ok Tryz.func219 (by kernel_rfl) ⟨ZrJ,trivial⟩
noncomputable def Zd0:Fn:=⟨19,[4],[(2,[(0,.c (.slice 3)),(1,.clo 219 []),(7,.c (.int .i64)),(8,.c (.int .i64))])],[],0,[],[],Tryz.f210,[.c (.slice 3),.clo 219 []],[.c (.int .i64)],[(219,Ztt.S)]⟩
theorem ZjN:Zd0.S.Ok Tryz.prog 210:=Zd0.ok Tryz.func210 (by kernel_rfl) ⟨Zty,trivial⟩
noncomputable def ZcY:Fn:=⟨9,[4],[],[],0,[],[],Tryz.f165,[.c (.slice 3),.clo 219 []],[.c (.bool)],[(210,Zd0.S)]⟩
theorem Zkr:ZcY.S.Ok Tryz.prog 165:=ZcY.ok Tryz.func165 (by kernel_rfl) ⟨ZjN,trivial⟩
noncomputable def ZrT:Fn:=⟨32,[2],[],[],0,[],[],Tryz.f173,[.agg hs25],[.c (.bool)],[(214,Zs7.S),(215,Zur.S),(216,Zsb.S),(217,Zsp.S),(218,Zuu.S),(165,ZcY.S)]⟩
theorem ZoO:ZrT.S.Ok Tryz.prog 173:=ZrT.ok Tryz.func173 (by kernel_rfl) ⟨Zus,⟨Zso,⟨Ztq,⟨Zsj,⟨Ztu,⟨Zkr,trivial⟩⟩⟩⟩⟩⟩
noncomputable def ZtS:Fn:=⟨26,[2],[],[],0,[],[],Tryz.f171,[.agg hs14],[.c (.bool)],[(98,F98.S),(172,Zra.S),(173,ZrT.S)]⟩
theorem ZsT:ZtS.S.Ok Tryz.prog 171:=ZtS.ok Tryz.func171 (by kernel_rfl) ⟨Zna,⟨Zpm,⟨ZoO,trivial⟩⟩⟩
noncomputable def Zuo:Fn:=⟨6,[2],[],[],0,[],[],Tryz.f163,[.agg hs19],[.c (.bool)],[(93,F93.S)]⟩
theorem ZsR:Zuo.S.Ok Tryz.prog 163:=Zuo.ok Tryz.func163 (by kernel_rfl) ⟨ZqT,trivial⟩
noncomputable def ZdM:Fn:=⟨19,[4],[(2,[(0,.c (.slice 11)),(1,.clo 163 []),(7,.c (.int .i64)),(8,.c (.int .i64))])],[],0,[],[],Tryz.f209,[.c (.slice 11),.clo 163 []],[.c (.int .i64)],[(163,Zuo.S)]⟩
theorem ZkC:ZdM.S.Ok Tryz.prog 209:=ZdM.ok Tryz.func209 (by kernel_rfl) ⟨ZsR,trivial⟩
noncomputable def Zdw:Fn:=⟨9,[4],[],[],0,[],[],Tryz.f162,[.c (.slice 11),.clo 163 []],[.c (.bool)],[(209,ZdM.S)]⟩
theorem Zjf:Zdw.S.Ok Tryz.prog 162:=Zdw.ok Tryz.func162 (by kernel_rfl) ⟨ZkC,trivial⟩
noncomputable def Zuh:Fn:=⟨6,[2],[],[],0,[],[],Tryz.f166,[.agg [.int .i64,.int .i64,.int .i64]],[.c (.bool)],[(150,Zms.S)]⟩
theorem Zsw:Zuh.S.Ok Tryz.prog 166:=Zuh.ok Tryz.func166 (by kernel_rfl) ⟨Zjq,trivial⟩
noncomputable def ZdH:Fn:=⟨19,[4],[(2,[(0,.c (.slice 3)),(1,.clo 166 []),(7,.c (.int .i64)),(8,.c (.int .i64))])],[],0,[],[],Tryz.f210,[.c (.slice 3),.clo 166 []],[.c (.int .i64)],[(166,Zuh.S)]⟩
theorem ZjO:ZdH.S.Ok Tryz.prog 210:=ZdH.ok Tryz.func210 (by kernel_rfl) ⟨Zsw,trivial⟩
noncomputable def ZdW:Fn:=⟨9,[4],[],[],0,[],[],Tryz.f165,[.c (.slice 3),.clo 166 []],[.c (.bool)],[(210,ZdH.S)]⟩
theorem ZiP:ZdW.S.Ok Tryz.prog 165:=ZdW.ok Tryz.func165 (by kernel_rfl) ⟨ZjO,trivial⟩
noncomputable def Zul:Fn:=⟨6,[2],[],[],0,[],[],Tryz.f168,[.c (.int .i64)],[.c (.bool)],[(98,F98.S)]⟩
theorem Zr6:Zul.S.Ok Tryz.prog 168:=Zul.ok Tryz.func168 (by kernel_rfl) ⟨Zna,trivial⟩
noncomputable def ZdX:Fn:=⟨19,[4],[(2,[(0,.c (.slice 1)),(1,.clo 168 []),(7,.c (.int .i64)),(8,.c (.int .i64))])],[],0,[],[],Tryz.f211,[.c (.slice 1),.clo 168 []],[.c (.int .i64)],[(168,Zul.S)]⟩
theorem ZjM:ZdX.S.Ok Tryz.prog 211:=ZdX.ok Tryz.func211 (by kernel_rfl) ⟨Zr6,trivial⟩
noncomputable def Zdu:Fn:=⟨9,[4],[],[],0,[],[],Tryz.f167,[.c (.slice 1),.clo 168 []],[.c (.bool)],[(211,ZdX.S)]⟩
theorem ZiC:Zdu.S.Ok Tryz.prog 167:=Zdu.ok Tryz.func167 (by kernel_rfl) ⟨ZjM,trivial⟩
noncomputable def ZtN:Fn:=⟨17,[5],[],[2],0,[],[],Tryz.f170,[.c (.int .i64),.c (.int .i64),.box hs0],[.c (.bool)],[]⟩
theorem Zst:ZtN.S.Ok Tryz.prog 170:=ZtN.ok Tryz.func170 (by kernel_rfl) trivial
noncomputable def Zdv:Fn:=⟨17,[4],[(2,[(0,.c (.int .i64)),(1,.clo 170 [17]),(5,.c (.int .i64)),(17,.gbox hs0)])],[],1,[],[],Tryz.f169,[.c (.int .i64),.clo 170 [17],.dead,.dead,.dead,.dead,.dead,.dead,.dead,.dead,.dead,.dead,.dead,.dead,.dead,.dead,.dead,.gbox hs0],[.c (.bool)],[(170,ZtN.S)]⟩
theorem Zit:Zdv.S.Ok Tryz.prog 169:=Zdv.ok Tryz.func169 (by kernel_rfl) ⟨Zst,trivial⟩
noncomputable def ZsX:Fn:=⟨13,[2],[],[],0,[],[],Tryz.f175,[.agg [.int .i64,.int .i64]],[.c (.bool)],[(91,F91.S),(98,F98.S)]⟩
theorem ZtJ:ZsX.S.Ok Tryz.prog 175:=ZsX.ok Tryz.func175 (by kernel_rfl) ⟨ZrR,⟨Zna,trivial⟩⟩
noncomputable def ZdK:Fn:=⟨19,[4],[(2,[(0,.c (.slice 2)),(1,.clo 175 []),(7,.c (.int .i64)),(8,.c (.int .i64))])],[],0,[],[],Tryz.f220,[.c (.slice 2),.clo 175 []],[.c (.int .i64)],[(175,ZsX.S)]⟩
theorem Zju:ZdK.S.Ok Tryz.prog 220:=ZdK.ok Tryz.func220 (by kernel_rfl) ⟨ZtJ,trivial⟩
noncomputable def ZdB:Fn:=⟨9,[4],[],[],0,[],[],Tryz.f174,[.c (.slice 2),.clo 175 []],[.c (.bool)],[(220,ZdK.S)]⟩
theorem Zj2:ZdB.S.Ok Tryz.prog 174:=ZdB.ok Tryz.func174 (by kernel_rfl) ⟨Zju,trivial⟩
noncomputable def F99:Fn:=⟨114,[4],[],[],0,[],[],Tryz.f99,[.agg hs0,.c (.int .i64)],[.c (.bool)],[(91,F91.S),(42,F42.S),(90,F90.S),(161,ZrV.S),(162,Zdw.S),(164,Zq8.S),(165,ZdW.S),(97,F97.S),(167,Zdu.S),(169,Zdv.S),(171,ZtS.S),(172,Zra.S),(173,ZrT.S),(174,ZdB.S)]⟩
theorem Zu2:F99.S.Ok Tryz.prog 99:=F99.ok Tryz.func99 (by kernel_rfl) ⟨ZrR,⟨ZtF,⟨ZrJ,⟨ZpX,⟨Zjf,⟨ZoU,⟨ZiP,⟨ZtY,⟨ZiC,⟨Zit,⟨ZsT,⟨Zpm,⟨ZoO,⟨Zj2,trivial⟩⟩⟩⟩⟩⟩⟩⟩⟩⟩⟩⟩⟩⟩
noncomputable def Zux:Fn:=⟨85,[],[],[0],0,[],[],Tryz.f100,[.box hs0,.c (.int .i64)],[],[]⟩
theorem Zsq:Zux.S.Ok Tryz.prog 100:=Zux.ok Tryz.func100 (by kernel_rfl) trivial
noncomputable def Zs6:Fn:=⟨29,[2],[],[],0,[],[],Tryz.f176,[.agg hs7],[.c (.bool)],[(92,F92.S)]⟩
theorem Zsv:Zs6.S.Ok Tryz.prog 176:=Zs6.ok Tryz.func176 (by kernel_rfl) ⟨Zt7,trivial⟩
noncomputable def Zrc:Fn:=⟨18,[2],[],[],0,[],[],Tryz.f177,[.agg [.int .i64,.slice 1,.slice 1]],[.c (.bool)],[]⟩
theorem ZpO:Zrc.S.Ok Tryz.prog 177:=Zrc.ok Tryz.func177 (by kernel_rfl) trivial
noncomputable def Zrf:Fn:=⟨37,[2],[],[],0,[],[],Tryz.f178,[.agg hs25],[.c (.bool)],[]⟩
theorem ZoW:Zrf.S.Ok Tryz.prog 178:=Zrf.ok Tryz.func178 (by kernel_rfl) trivial
noncomputable def Zr5:Fn:=⟨31,[2],[],[],0,[],[],Tryz.f179,[.agg hs14],[.c (.bool)],[(177,Zrc.S),(178,Zrf.S)]⟩
theorem Zs9:Zr5.S.Ok Tryz.prog 179:=Zr5.ok Tryz.func179 (by kernel_rfl) ⟨ZpO,⟨ZoW,trivial⟩⟩
noncomputable def Zr0:Fn:=⟨81,[2],[],[],0,[],[],Tryz.f101,[.agg hs0],[.c (.bool)],[(176,Zs6.S),(177,Zrc.S),(178,Zrf.S),(179,Zr5.S)]⟩
theorem Ztm:Zr0.S.Ok Tryz.prog 101:=Zr0.ok Tryz.func101 (by kernel_rfl) ⟨Zsv,⟨ZpO,⟨ZoW,⟨Zs9,trivial⟩⟩⟩⟩
noncomputable def F45:Fn:=⟨50,[2],[(6,[(1,.box hs0),(5,.box hs0),(35,.c (.slice 1)),(36,.c (.int .i64)),(37,.c (.int .i64))])],[],0,[],[],Tryz.f45,[.agg hs0],[.c (.bool)],[(96,F96.S),(97,F97.S),(98,F98.S),(99,F99.S),(100,Zux.S),(101,Zr0.S)]⟩
theorem Zvk:F45.S.Ok Tryz.prog 45:=F45.ok Tryz.func45 (by kernel_rfl) ⟨Zvh,⟨ZtY,⟨Zna,⟨Zu2,⟨Zsq,⟨Ztm,trivial⟩⟩⟩⟩⟩⟩
noncomputable def g45 (x0 x1 x2 x3 x4 x5 x6 x7 x8 x9 x10:Int) (x11:Bool) (x12 x13 x14 x15 x16 x17 x18 x19 x20 x21 x22 x23 x24 x25 x26 x27 x28 x29 x30 x31:Int) (x32:LL) (x33 x34 x35 x36 x37 x38:Int) (x39:Bool) (x40 x41 x42 x43:LL) (x44 x45:Int) (x46 x47 x48 x49 x50 x51 x52 x53:LL) (x54 x55:Int) (x56 x57 x58 x59 x60 x61 x62 x63:LL) (x64:Bool) (x65:Int) (x66 x67 x68 x69 x70 x71 x72 x73:LL):Option (Bool):=F45.S.g [.i x0,.i x1,.i x2,.i x3,.i x4,.i x5,.i x6,.i x7,.i x8,.i x9,.i x10,.b x11,.i x12,.i x13,.i x14,.i x15,.i x16,.i x17,.i x18,.i x19,.i x20,.i x21,.i x22,.i x23,.i x24,.i x25,.i x26,.i x27,.i x28,.i x29,.i x30,.i x31,.l x32,.i x33,.i x34,.i x35,.i x36,.i x37,.i x38,.b x39,.l x40,.l x41,.l x42,.l x43,.i x44,.i x45,.l x46,.l x47,.l x48,.l x49,.l x50,.l x51,.l x52,.l x53,.i x54,.i x55,.l x56,.l x57,.l x58,.l x59,.l x60,.l x61,.l x62,.l x63,.b x64,.i x65,.l x66,.l x67,.l x68,.l x69,.l x70,.l x71,.l x72,.l x73]
noncomputable def ZrH:Fn:=⟨17,[4],[],[],0,[],[],Tryz.f180,[.c (.int .i64),.c (.int .i64)],[.c (.bool)],[(221,Zqu.S)]⟩
theorem ZtB:ZrH.S.Ok Tryz.prog 180:=ZrH.ok Tryz.func180 (by kernel_rfl) ⟨Zo0,trivial⟩
noncomputable def ZsM (x0 x1:Int):Option (Bool):=ZrH.S.g [.i x0,.i x1]
noncomputable def Zry:Fn:=⟨6,[2],[],[],0,[],[],Tryz.f181,[.c (.int .i64)],[.c (.bool)],[]⟩
theorem Zsl:Zry.S.Ok Tryz.prog 181:=Zry.ok Tryz.func181 (by kernel_rfl) trivial
noncomputable def Zsr (x0:Int):Option (Bool):=Zry.S.g [.i x0]
noncomputable def Zqk:Fn:=⟨54,[4,5],[(3,[(0,.c (.slice 1)),(1,.c (.int .i64)),(6,.c (.int .i64)),(7,.c (.int .i64)),(8,.c (.int .i64))])],[],0,[],[],Tryz.f104,[.c (.slice 1),.c (.int .i64)],[.c (.int .i64),.c (.bool)],[(180,ZrH.S),(181,Zry.S)]⟩
theorem Zug:Zqk.S.Ok Tryz.prog 104:=Zqk.ok Tryz.func104 (by kernel_rfl) ⟨ZtB,⟨Zsl,trivial⟩⟩
noncomputable def ZsE (x0:LL) (x1:Int):Option (Int×Bool):=Zqk.S.g [.l x0,.i x1]
noncomputable def F105.S:Fun:=Zrj true 3
theorem Zt6:F105.S.Ok Tryz.prog 105:=delF_ok (T:=52) (B:=4) (I:=3) (U:=0) (e:=3) (bytes:=8) mixed (by kernel_rfl) Tryz.func105 (by kernel_rfl) ⟨by kernel_rfl,by kernel_rfl,by kernel_rfl⟩
noncomputable def Zt5 (x0:LL) (x1 x2:Int):Option LL:=F105.S.g [.l x0,.i x1,.i x2]
theorem Zob (x0:LL) (x1 x2:Int):Zt5 x0 x1 x2=Zm5 x0 x1 x2:=rfl
noncomputable def F48:Fn:=⟨35,[4],[],[0],0,[],[],Tryz.f48,[.box hs4,.c (.int .i64)],[.c (.bool)],[(104,Zqk.S),(105,F105.S)]⟩
theorem Zve:F48.S.Ok Tryz.prog 48:=F48.ok Tryz.func48 (by kernel_rfl) ⟨Zug,⟨Zt6,trivial⟩⟩
noncomputable def g48 (x0 x1 x2:Int) (x3:Bool) (x4 x5:LL) (x6 x7 x8 x9 x10 x11 x12 x13 x14 x15 x16 x17 x18 x19 x20 x21 x22 x23 x24 x25:Int) (x26:LL) (x27 x28 x29 x30 x31 x32:Int) (x33:Bool) (x34:Int) (x35 x36 x37:LL) (x38:Int):Option (Qt11):=F48.S.g [.i x0,.i x1,.i x2,.b x3,.l x4,.l x5,.i x6,.i x7,.i x8,.i x9,.i x10,.i x11,.i x12,.i x13,.i x14,.i x15,.i x16,.i x17,.i x18,.i x19,.i x20,.i x21,.i x22,.i x23,.i x24,.i x25,.l x26,.i x27,.i x28,.i x29,.i x30,.i x31,.i x32,.b x33,.i x34,.l x35,.l x36,.l x37,.i x38]
noncomputable def F18:Fn:=⟨211,[4,5],[(13,[(0,.box hs4),(127,.c (.slice 3)),(128,.c (.int .i64)),(129,.c (.int .i64))])],[0],0,[],[(1000000,[(4,0)])],Tryz.f18,[.box hs4,.agg hs0],[.c (.slice 74),.c (.slice 4)],[(45,F45.S),(46,F46.S),(47,F47.S),(48,F48.S),(49,F49.S),(44,F44.S)]⟩
theorem ZuI:F18.S.Ok Tryz.prog 18:=F18.ok Tryz.func18 (by kernel_rfl) ⟨Zvk,⟨ZuU,⟨ZpL,⟨Zve,⟨ZuX,⟨ZuM,trivial⟩⟩⟩⟩⟩⟩
noncomputable def g18 (x0 x1 x2:Int) (x3:Bool) (x4 x5:LL) (x6 x7 x8 x9 x10 x11 x12 x13 x14 x15 x16 x17 x18 x19 x20 x21 x22 x23 x24 x25:Int) (x26:LL) (x27 x28 x29 x30 x31 x32:Int) (x33:Bool) (x34:Int) (x35 x36 x37:LL) (x38 x39 x40 x41 x42 x43 x44 x45 x46 x47 x48:Int) (x49:Bool) (x50 x51 x52 x53 x54 x55 x56 x57 x58 x59 x60 x61 x62 x63 x64 x65 x66 x67 x68 x69:Int) (x70:LL) (x71 x72 x73 x74 x75 x76:Int) (x77:Bool) (x78 x79 x80 x81:LL) (x82 x83:Int) (x84 x85 x86 x87 x88 x89 x90 x91:LL) (x92 x93:Int) (x94 x95 x96 x97 x98 x99 x100 x101:LL) (x102:Bool) (x103:Int) (x104 x105 x106 x107 x108 x109 x110 x111:LL):Option (Qt10):=F18.S.g [.i x0,.i x1,.i x2,.b x3,.l x4,.l x5,.i x6,.i x7,.i x8,.i x9,.i x10,.i x11,.i x12,.i x13,.i x14,.i x15,.i x16,.i x17,.i x18,.i x19,.i x20,.i x21,.i x22,.i x23,.i x24,.i x25,.l x26,.i x27,.i x28,.i x29,.i x30,.i x31,.i x32,.b x33,.i x34,.l x35,.l x36,.l x37,.i x38,.i x39,.i x40,.i x41,.i x42,.i x43,.i x44,.i x45,.i x46,.i x47,.i x48,.b x49,.i x50,.i x51,.i x52,.i x53,.i x54,.i x55,.i x56,.i x57,.i x58,.i x59,.i x60,.i x61,.i x62,.i x63,.i x64,.i x65,.i x66,.i x67,.i x68,.i x69,.l x70,.i x71,.i x72,.i x73,.i x74,.i x75,.i x76,.b x77,.l x78,.l x79,.l x80,.l x81,.i x82,.i x83,.l x84,.l x85,.l x86,.l x87,.l x88,.l x89,.l x90,.l x91,.i x92,.i x93,.l x94,.l x95,.l x96,.l x97,.l x98,.l x99,.l x100,.l x101,.b x102,.i x103,.l x104,.l x105,.l x106,.l x107,.l x108,.l x109,.l x110,.l x111]
end Go.Proofs.YtlgmnddelljbmaaGreat
end

section
namespace Go.AM
def TyR (P:Program):Nat→TypeId→List AV→Prop
 | 0, _, _ => False
 | d + 1, T, cs =>
  match P.underlying T with
  | some (.int k) => ∃ z, cs = [.val (.int k z)] ∧ (Lit.int k z).wf = true
  | some .bool => ∃ b, cs = [.val (.bool b)]
  | some .string => ∃ s, cs = [.val (.string s)]
  | some (.slice e) => ∃ xs : List (List AV), cs = [.slice false (P.cellsOf e) xs] ∧ xs.length ≤ maxLen ∧ ∀ x ∈ xs, TyR P d e x
  | some (.struct fs) => ∃ parts : List (List AV), cs = parts.flatten ∧ parts.length = fs.size ∧ ∀ (i : Nat) (f : Field) (p : List AV), fs[i]? = some f → parts[i]? = some p → TyR P d f.type p
  | _ => False
def Zal (P:Program):Nat→TypeId→Bool
 | 0, _ => false
 | d + 1, T =>
  match P.underlying T with
  | some (.int _) => true
  | some .bool => true
  | some .string => true
  | some (.slice e) => Zal P d e && decide (0 < P.cellsOf e)
  | some (.struct fs) => (fs.toList.all fun f => Zal P d f.type) && decide (P.cellsOf T = (fs.toList.map fun f => P.cellsOf f.type).sum) &&
    (fs.toList.zipIdx.all fun p=>decide (p.1.offset=((fs.toList.take p.2).map fun f=>P.cellsOf f.type).sum))
  | _ => false
def KH (w:World):Nat→Nat:=fun b=>match w.heap[b]? with | some (.cells c _ _)=>c.size | _=>0
theorem ZkG {w:World} {b o:Nat} {u:Value} (h:w.cell? ⟨b,o,none⟩=some u):o < KH w b:=by
 unfold World.cell? at h
 unfold KH
 split at h
 ·rename_i c t fr hc
  have h':c[o]? = some u:=by simpa using h
  have hc':w.heap[b]? = some (.cells c t fr):=hc
  rw [hc']
  exact (Array.getElem?_eq_some_iff.1 h').1
 ·cases h
theorem J7.flat {w:World} {lim:Nat→Nat} : ∀ (aZ:List (List AV)) (us:List (List Value)),aZ.length=us.length→(∀ (i:Nat) (a:List AV) (u:List Value),aZ[i]? = some a→us[i]? = some u→J7 w lim a u)→J7 w lim aZ.flatten us.flatten
 | [], [], _, _ => J7.nil w lim
 | [], _ :: _, h, _ => by simp at h
 | _ :: _, [], h, _ => by simp at h
 | a :: aZ, u :: us, h, hr => by
  have h1:=hr 0 a u rfl rfl
  have h2:=J7.flat aZ us (by simpa using h) fun i a' u' ha hu=>hr (i+1) a' u' (by simpa using ha) (by simpa using hu)
  refine ⟨by simp [h1.1,h2.1],fun c hc=>?_,fun i c v hc hv=>?_⟩
  ·rw [List.flatten_cons,List.mem_append] at hc
   rcases hc with hc | hc
   ·exact h1.2.1 c hc
   ·exact h2.2.1 c hc
  ·rw [List.flatten_cons] at hc hv
   by_cases hi:i < a.length
   ·rw [List.getElem?_append_left hi] at hc
    rw [List.getElem?_append_left (by rw [← h1.1];exact hi)] at hv
    exact h1.2.2 i c v hc hv
   ·rw [List.getElem?_append_right (by omega)] at hc
    rw [List.getElem?_append_right (by rw [← h1.1];omega),← h1.1] at hv
    exact h2.2.2 _ c v hc hv
theorem Zml {α:Type} : ∀ (ns:List Nat) (cs:List α),cs.length=ns.sum→∃ ps:List (List α),ps.length=ns.length∧ps.flatten=cs∧∀ (i:Nat) (n:Nat),ns[i]? = some n→ps[i]? = some ((cs.drop (ns.take i).sum).take n)
 | [], cs, h => ⟨[], rfl, by simp at h; simp [h], by simp⟩
 | n :: ns, cs, h => by
  obtain ⟨ps,h1,h2,h3⟩:=Zml ns (cs.drop n) (by simp only [List.sum_cons] at h;simp;omega)
  refine ⟨cs.take n::ps,by simp [h1],by rw [List.flatten_cons,h2,List.take_append_drop],fun i m hi=>?_⟩
  cases i with
  | zero => simp at hi; subst hi; simp
  | succ i =>
   have:=h3 i m (by simpa using hi)
   simp only [List.getElem?_cons_succ,this,List.take_succ_cons,List.sum_cons,List.drop_drop]
theorem VJ {β:Type} {Q:Nat→β→Prop} : ∀ (n:Nat),(∀ i,i < n→∃ b,Q i b)→∃ l:List β,l.length=n∧∀ (i:Nat) (b:β),l[i]? = some b→Q i b
 | 0, _ => ⟨[], rfl, by simp⟩
 | n + 1, h => by
  obtain ⟨l,h1,h2⟩:=VJ n fun i hi=>h i (by omega)
  obtain ⟨b,hb⟩:=h n (by omega)
  refine ⟨l++[b],by simp [h1],fun i c hc=>?_⟩
  by_cases hi:i < l.length
  ·rw [List.getElem?_append_left hi] at hc
   exact h2 i c hc
  ·rw [List.getElem?_append_right (by omega)] at hc
   have h0:i-l.length=0:=by
    have:=(List.getElem?_eq_some_iff.1 hc).1
    simp at this
    omega
   rw [h0] at hc
   simp only [List.getElem?_cons_zero,Option.some.injEq] at hc
   subst hc
   have:i=n:=by omega
   rw [this]
   exact hb
theorem Zcq {s:Nat} {cell:Nat→Option Value} : ∀ (l:List (List Value)) (o:Nat),(∀ (i:Nat) (us:List Value),l[i]? = some us→us.length=s∧∀ (k:Nat) (u:Value),us[k]? = some u→cell (o+i*s+k)=some u)→
  ∀ (j:Nat) (u:Value),l.flatten[j]? = some u→cell (o+j)=some u
 | [], o, _, j, u, h => by simp at h
 | us :: l, o, h, j, u, hj => by
  obtain ⟨h1,h2⟩:=h 0 us rfl
  rw [List.flatten_cons] at hj
  by_cases hlt:j < us.length
  ·rw [List.getElem?_append_left hlt] at hj
   have:=h2 j u hj
   simpa using this
  ·rw [List.getElem?_append_right (by omega)] at hj
   have:=Zcq l (o+s) (fun i us' hi=>by
    obtain ⟨g1,g2⟩:=h (i+1) us' (by simpa using hi)
    refine ⟨g1,fun k u' hk=>?_⟩
    have:=g2 k u' hk
    rw [Nat.add_mul,Nat.one_mul] at this
    rw [show o+s+i*s+k=o+(i*s+s)+k by omega]
    exact this) (j-us.length) u hj
   rw [show o+s+(j-us.length)=o+j by omega] at this
   exact this
theorem Zh4 {H:Type} {f:Func} {s:ChangeSpec} {apart fresh handsOn again:Bool} {W W':World} {args:Array Value} {v:Value} {ds gs:List (DataW H)} {before pa:List MemPlace} {P:Program} {enc:TypeId×Value→H}
  (hW:DataW.Whole enc P f.params.toList s.vars apart W args.toList ds gs before)
  (hres:∀ (b:Nat) (sp:Nat→Bool) (hd:Bool),DataW.TrodAll enc P W' b sp hd f.resultTypes.toList (v.resultList f.resultTypes.size) (s.fn H (ds++gs)).results [])
  (hargs:∀ sp:Nat→Bool,(∀ p∈before,sp p.block=true)→DataW.TrodAll enc P W' 0 sp true f.params.toList args.toList (s.fn H (ds++gs)).args pa)
  (hvars:∀ sp:Nat→Bool,(∀ p∈before,sp p.block=true)→DataW.TrodVars enc P W' sp s.vars (s.fn H (ds++gs)).vars [])
  (hps:before=pa++[]) (hk:W.keptBut W' (·∈before)) (hfz:∀ a:Addr,a.block < W.heap.size→W'.frozen? a=W.frozen? a)
  (hok:∀ (j:Nat) (t:TypeId) (r:Value),f.resultTypes[j]? = some t→(v.resultList f.resultTypes.size)[j]? = some r→Value.okWide P W' .any 0 t r) :
  s.post enc P f apart fresh handsOn again W args v W':=by
 have hin:∀ p∈before,p.block < W.heap.size:=fun p hp=>hW.lt p hp
 have hdec:∀ p∈before,(fun b=>decide (b < W.heap.size)) p.block=true:=fun p hp=>decide_eq_true (hin p hp)
 refine ⟨ds,gs,before,[],pa,[],hW,hres _ _ _,hargs _ hdec,hvars _ hdec,World.keptBut_mono (fun p hp=>⟨hp,?_⟩) hk,fun _=>?_⟩
 ·refine Or.inr (Or.inl ?_)
  rwa [hps,List.append_nil] at hp
 ·have hWp:=hW
  obtain ⟨_,_,_,_,_,hz,hn⟩:=hWp
  refine ⟨hok,_,_,([]++pa)++[],⟨[]++pa,[],ChangeShapes.trodAll_append (hargs _ fun _ _=>rfl) (hres _ _ _),hvars _ fun _ _=>rfl,rfl,?_,?_⟩,?_⟩
  ·intro b off hp
   have hmem:MemPlace.cell b off∈before:=by rw [hps];simpa using hp
   rw [hfz _ (hin _ hmem)]
   exact hz b off hmem
  ·intro ha
   have h1:=hn ha
   rw [hps] at h1
   simpa using h1
  ·intro p hp _
   rw [hps]
   simpa using hp
section
variable {P:Program} {H:Type} {enc:TypeId×Value→H} {w:World} {sp:Nat→Bool} {held:Bool}
theorem Zgh:∀ (d n:Nat) (T:TypeId) (cs:List Value) (x:DataW H×List MemPlace),Zal P d T=true→DataW.trod enc P w 0 sp held n T cs=some x→∃ avs,TyR P d T avs∧J7 w (KH w) avs cs
 | 0, n, T, cs, x, hf, _ => by simp [Zal] at hf
 | d + 1, n, T, cs, x, hf, h => by
  simp only [Zal] at hf
  split at hf
  ·rename_i k hk
   obtain ⟨z,rfl,_,hw⟩:=DataW.trod_int hk h
   refine ⟨[.val (.int k z)],?_,rfl,by simp [AV.isCell],fun i c u hc hu=>?_⟩
   ·simp only [TyR,hk];exact ⟨z,rfl,hw⟩
   ·cases i with
    | zero => simp at hc hu; subst hc; subst hu; exact .val rfl
    | succ i => simp at hc
  ·rename_i hk
   obtain ⟨b,rfl,_⟩:=DataW.trod_bool hk h
   refine ⟨[.val (.bool b)],?_,rfl,by simp [AV.isCell],fun i c u hc hu=>?_⟩
   ·simp only [TyR,hk];exact ⟨b,rfl⟩
   ·cases i with
    | zero => simp at hc hu; subst hc; subst hu; exact .val rfl
    | succ i => simp at hc
  ·rename_i hk
   obtain ⟨s,rfl,_⟩:=DataW.trod_string hk h
   refine ⟨[.val (.string s)],?_,rfl,by simp [AV.isCell],fun i c u hc hu=>?_⟩
   ·simp only [TyR,hk];exact ⟨s,rfl⟩
   ·cases i with
    | zero => simp at hc hu; subst hc; subst hu; exact .val rfl
    | succ i => simp at hc
  ·rename_i e hk
   simp only [Bool.and_eq_true,decide_eq_true_eq] at hf
   rcases DataW.trod_slice hk h with ⟨rfl,_⟩ | ⟨a,len,cap,Wh,rest,m,_,rfl,_,_,hlc,hcm,hel,hcells,_,_⟩
   ·refine ⟨[.slice false (P.cellsOf e) []],?_,rfl,by simp [AV.isCell],fun i c u hc hu=>?_⟩
    ·simp only [TyR,hk];exact ⟨[],rfl,by simp,by simp⟩
    ·cases i with
     | zero => simp at hc hu; subst hc; subst hu; exact .sliceN
     | succ i => simp at hc
   ·obtain ⟨l,hl1,hl2⟩:=VJ (Q:=fun i (p:List Value×List AV)=>w.cells? 0 (a.add (i*P.cellsOf e)) (P.cellsOf e)=some p.1∧TyR P d e p.2∧J7 w (KH w) p.2 p.1) len fun i hi=>by
     have h1:=hcells i hi
     obtain ⟨y,hy⟩:∃ y,Wh[i]? = some y:=⟨_,List.getElem?_eq_getElem (by omega)⟩
     rw [hy,Option.bind_eq_some_iff] at h1
     obtain ⟨us,h2,h3⟩:=h1
     obtain ⟨avs,h4,h5⟩:=Zgh d m e us y hf.1 h3
     exact ⟨(us,avs),h2,h4,h5⟩
    have hall:∀ p∈l,TyR P d e p.2∧J7 w (KH w) p.2 p.1∧p.1.length=P.cellsOf e:=by
     intro p hp
     obtain ⟨i,hi⟩:=List.mem_iff_getElem?.1 hp
     obtain ⟨g1,g2,g3⟩:=hl2 i p hi
     exact ⟨g2,g3,(World.cells?_some g1).2.1⟩
    refine ⟨[.slice false (P.cellsOf e) (l.map (·.2))],?_,rfl,by simp [AV.isCell],fun i c u hc hu=>?_⟩
    ·simp only [TyR,hk]
     refine ⟨_,rfl,by simp;omega,fun y hy=>?_⟩
     obtain ⟨p,hp,rfl⟩:=List.mem_map.1 hy
     exact (hall p hp).1
    ·cases i with
     | succ i => simp at hc
     | zero =>
      simp only [List.getElem?_cons_zero,Option.some.injEq] at hc hu
      subst hc
      subst hu
      cases l with
      | nil =>
       have:len=0:=by simpa using hl1.symm
       subst this
       exact .sliceE (fun h=>by cases h)
      | cons p l' =>
       have hcell:∀ (j:Nat) (u:Value),((p::l').map (·.1)).flatten[j]? = some u→w.cell? ⟨a.block,a.off+j,none⟩=some u:=by
        refine Zcq (s:=P.cellsOf e) (cell:=fun o=>w.cell? ⟨a.block,o,none⟩) _ a.off fun i us hi=>?_
        rw [List.getElem?_map] at hi
        cases hpi:(p::l')[i]? with
        | none => simp [hpi] at hi
        | some q =>
         simp only [hpi,Option.map_some,Option.some.injEq] at hi
         subst hi
         obtain ⟨g1,_,_⟩:=hl2 i q hpi
         obtain ⟨_,k2,k3⟩:=World.cells?_some g1
         refine ⟨k2,fun k u hu=>?_⟩
         have hk':k < P.cellsOf e:=by rw [← k2];exact (List.getElem?_eq_some_iff.1 hu).1
         have:=k3 k hk'
         rw [hu] at this
         have hblk:((a.add (i*P.cellsOf e)).add k).block=a.block∧((a.add (i*P.cellsOf e)).add k).off=a.off+i*P.cellsOf e+k:=by
          unfold Addr.add
          split<;>split<;>simp_all
         have hspot:((a.add (i*P.cellsOf e)).add k).spot=none:=by
          unfold World.cell? at this
          split at this
          ·split at this
           ·cases this
           ·rename_i hs;simpa using hs
          ·cases this
         have heq:(a.add (i*P.cellsOf e)).add k=⟨a.block,a.off+i*P.cellsOf e+k,none⟩:=by
          rw [← hblk.1,← hblk.2,← hspot]
         rw [heq] at this
         exact this
       have hspot:a.spot=none:=by
        obtain ⟨g1,_,_⟩:=hl2 0 p rfl
        obtain ⟨_,k2,k3⟩:=World.cells?_some g1
        have:=k3 0 hf.2
        obtain ⟨u,hu⟩:∃ u,p.1[0]? = some u:=⟨_,List.getElem?_eq_getElem (by rw [k2];exact hf.2)⟩
        rw [hu] at this
        have ha:(a.add (0*P.cellsOf e)).add 0=a:=by simp [Addr.add]
        rw [ha] at this
        unfold World.cell? at this
        split at this
        ·split at this
         ·cases this
         ·rename_i hs;simpa using hs
        ·cases this
       have ha:a=⟨a.block,a.off,none⟩:=by rw [← hspot]
       have hlen:((p::l').map (·.2)).length=len:=by rw [List.length_map];exact hl1
       rw [ha,← hlen]
       have hrel:J7 w (KH w) ((p::l').map (·.2)).flatten ((p::l').map (·.1)).flatten:=by
        refine J7.flat _ _ (by simp) fun i x us hx hus=>?_
        rw [List.getElem?_map] at hx hus
        cases hpi:(p::l')[i]? with
        | none => simp [hpi] at hx
        | some q =>
         simp only [hpi,Option.map_some,Option.some.injEq] at hx hus
         subst hx
         subst hus
         exact (hl2 i q hpi).2.2
       have hsz:∀ x∈(p::l').map (·.2),x.length=P.cellsOf e:=by
        intro x hx
        obtain ⟨q,hq,rfl⟩:=List.mem_map.1 hx
        obtain ⟨_,g2,g3⟩:=hall q hq
        rw [g2.1,g3]
       refine .sliceC (us:=((p::l').map (·.1)).flatten) hsz (fun x hx=>?_) (fun h=>by cases h) (by rw [hlen];exact hlc) (fun hne=>?_) ?_ hcell hrel.2.2
       ·obtain ⟨q,hq,rfl⟩:=List.mem_map.1 hx
        exact (hall q hq).2.1.2.1
       ·have hpos:0 < (((p::l').map (·.1)).flatten).length:=List.length_pos_iff.2 hne
        have hlast:=hcell ((((p::l').map (·.1)).flatten).length-1) _ (List.getElem?_eq_getElem (by omega))
        have:=ZkG hlast
        omega
       ·rw [← hrel.1,Zl _ _ hsz]
  ·rename_i fs hk
   simp only [Bool.and_eq_true,decide_eq_true_eq,List.all_eq_true] at hf
   obtain ⟨⟨h1,h2⟩,h3⟩:=hf
   obtain ⟨xs,m,_,_,hlen,hxl,hparts⟩:=DataW.trod_struct hk h
   obtain ⟨ps,q1,q2,q3⟩:=Zml (fs.toList.map fun f=>P.cellsOf f.type) cs (by rw [hlen,h2])
   have hps:ps.length=fs.size:=by rw [q1];simp
   obtain ⟨l,hl1,hl2⟩:=VJ (Q:=fun i (avs:List AV)=>∃ (f:Field) (us:List Value),fs[i]? = some f∧ps[i]? = some us∧TyR P d f.type avs∧J7 w (KH w) avs us) fs.size fun i hi=>by
    have hfi:fs[i]? = some fs[i]:=Array.getElem?_eq_getElem hi
    have hn:(fs.toList.map fun f=>P.cellsOf f.type)[i]? = some (P.cellsOf fs[i].type):=by simp [hi]
    have h4:=q3 i _ hn
    have h5:=hparts i _ hfi
    have hoff:=h3 (fs[i],i) (by rw [List.mem_zipIdx_iff_getElem?];simp [hi])
    simp only at hoff
    rw [hoff,List.map_take] at h5
    obtain ⟨y,hy⟩:∃ y,xs[i]? = some y:=⟨_,List.getElem?_eq_getElem (by omega)⟩
    rw [hy] at h5
    obtain ⟨avs,h6,h7⟩:=Zgh d m _ _ y (h1 fs[i] (by simp)) h5
    exact ⟨avs,fs[i],_,hfi,h4,h6,h7⟩
   refine ⟨l.flatten,?_,?_⟩
   ·simp only [TyR,hk]
    refine ⟨l,rfl,hl1,fun i f p hf hp=>?_⟩
    obtain ⟨f',us,g1,g2,g3,g4⟩:=hl2 i p hp
    rw [hf] at g1
    cases g1
    exact g3
   ·rw [← q2]
    refine J7.flat _ _ (by rw [hl1,hps]) fun i avs us ha hu=>?_
    obtain ⟨f',us',g1,g2,g3,g4⟩:=hl2 i avs ha
    rw [hu] at g2
    cases g2
    exact g4
  ·cases hf
def Zb9 (P:Program) (d:Nat) (T:TypeId) (x:AV):Prop:=
 match P.underlying T with
 | some (.struct _) => ∃ cs, x = .agg cs ∧ TyR P d T cs
 | _ => x.isCell = true ∧ TyR P d T [x]
theorem Zl9 {lim:Nat→Nat} {avs:List AV} {v:Value} (h:J7 w lim avs [v]):∃ x,avs = [x]∧x.isCell=true∧Rep w lim x v:=by
 obtain ⟨x,rfl⟩:=List.length_eq_one_iff.1 (by simpa using h.1:avs.length=1)
 exact ⟨x,rfl,h.2.1 x (by simp),h.2.2 0 x v rfl rfl⟩
theorem ZlA {d:Nat} {T:TypeId} {v:Value} {x:DataW H} {ps:List MemPlace} {r:Reach} {base:Nat} (hf:Zal P d T=true) (hok:Value.okWide P w r base T v)
  (h:DataW.Trod enc P w 0 sp held T v x ps):∃ y,Zb9 P d T y∧∀ X σ k,ZK P w (KH w) X σ k y v:=by
 obtain ⟨n,h⟩:=h
 obtain ⟨avs,h1,h2⟩:=Zgh d n T _ _ hf h
 cases d with
 | zero => simp [Zal] at hf
 | succ d =>
  have one:v.cells.toList = [v]→(∀ fs,P.underlying T≠some (.struct fs))→∃ y,Zb9 P (d+1) T y∧∀ X σ k,ZK P w (KH w) X σ k y v:=by
   intro hv hns
   rw [hv] at h2
   obtain ⟨y,rfl,h3,h4⟩:=Zl9 h2
   refine ⟨y,?_,fun X σ k=>(Vq h3 h4).2⟩
   unfold Zb9
   split
   ·rename_i fs hfs;exact (hns fs hfs).elim
   ·exact ⟨h3,h1⟩
  simp only [Zal] at hf
  split at hf
  ·rename_i kd hk
   obtain ⟨z,hz,_⟩:=DataW.trod_int hk h
   refine one ?_ (by rw [hk];simp)
   simp only [Value.okWide,hk,Cell.okWide] at hok
   cases v<;>simp_all [Cell.ok,Value.cells]
  ·rename_i hk
   refine one ?_ (by rw [hk];simp)
   simp only [Value.okWide,hk,Cell.okWide] at hok
   cases v<;>simp_all [Cell.ok,Value.cells]
  ·rename_i hk
   refine one ?_ (by rw [hk];simp)
   simp only [Value.okWide,hk,Cell.okWide] at hok
   cases v<;>simp_all [Cell.ok,Value.cells]
  ·rename_i e hk
   refine one ?_ (by rw [hk];simp)
   simp only [Value.okWide,hk,Cell.okWide] at hok
   cases v<;>simp_all [Cell.ok,Value.cells]
  ·rename_i fs hk
   simp only [Value.okWide,hk] at hok
   obtain ⟨cs,rfl,_,_⟩:=hok
   refine ⟨.agg avs,?_,?_⟩
   ·unfold Zb9
    simp only [hk]
    exact ⟨avs,rfl,h1⟩
   ·have:cs=cs.toList.toArray:=by simp
    intro X σ k
    show Rep w (KH w) (.agg avs) (.agg cs)
    rw [this]
    exact .agg h2.1 h2.2.1 h2.2.2
  ·cases hf
theorem ZeN {d:Nat} {r:Reach} {base:Nat} : ∀ (ts:List TypeId) (vs:List Value) (ds:List (DataW H)) (ps:List MemPlace),(∀ t∈ts,Zal P d t=true)→
  (∀ (j:Nat) (t:TypeId) (v:Value),ts[j]? = some t→vs[j]? = some v→Value.okWide P w r base t v)→DataW.TrodAll enc P w 0 sp held ts vs ds ps→
  vs.length=ts.length∧∃ xs:List AV,xs.length=ts.length∧∀ (i:Nat) (t:TypeId) (x:AV) (v:Value),ts[i]? = some t→xs[i]? = some x→vs[i]? = some v→Zb9 P d t x∧∀ X σ k,ZK P w (KH w) X σ k x v
 | [], [], [], ps, _, _, _ => ⟨rfl, [], rfl, by simp⟩
 | t :: ts, v :: vs, x :: ds, ps, hf, hok, h => by
  obtain ⟨p,q,h1,h2,_⟩:=h
  obtain ⟨y,g1,g2⟩:=ZlA (hf t (by simp)) (hok 0 t v rfl rfl) h1
  obtain ⟨k1,xs,k2,k3⟩:=ZeN ts vs ds q (fun t ht=>hf t (by simp [ht])) (fun j t' v' ht hv=>hok (j+1) t' v' (by simpa using ht) (by simpa using hv)) h2
  refine ⟨by simp [k1],y::xs,by simp [k2],fun i t' x' v' ht hx hv=>?_⟩
  cases i with
  | zero =>
   simp only [List.getElem?_cons_zero,Option.some.injEq] at ht hx hv
   subst ht
   subst hx
   subst hv
   exact ⟨g1,g2⟩
  | succ i => exact k3 i t' x' v' (by simpa using ht) (by simpa using hx) (by simpa using hv)
 | [], _ :: _, _, _, _, _, h => h.elim
 | [], [], _ :: _, _, _, _, h => h.elim
 | _ :: _, [], _, _, _, _, h => h.elim
 | _ :: _, _ :: _, [], _, _, _, h => h.elim
theorem Ze8 {w':World} {sp':Nat→Bool} (hl:laidOutB P=true):∀ (ts:List TypeId) (vs:List Value) (ds:List (DataW H)) (ps:List MemPlace),(∀ t∈ts,t < P.types.size∧P.readableRec t=true)→
  DataW.TrodAll enc P w 0 (fun _=>true) true ts vs ds ps→(∀ p∈ps,w.sameAt w' p)→(∀ p∈ps,sp' p.block=true)→DataW.TrodAll enc P w' 0 sp' true ts vs ds ps
 | [], [], [], _, _, h, _, _ => h
 | t :: ts, v :: vs, x :: ds, ps, ht, h, hs, hp => by
  obtain ⟨p,q,⟨n,h1⟩,h2,rfl⟩:=h
  refine ⟨p,q,⟨n,?_⟩,Ze8 hl ts vs ds q (fun t' h'=>ht t' (by simp [h'])) h2 (fun z hz=>hs z (by simp [hz])) (fun z hz=>hp z (by simp [hz])),rfl⟩
  have hr:=(ht t (by simp)).2
  exact DataW.trod_stays (T:=InBook P t) (kids_book hl hr) (fun {t' e} h' hu=>book_sized hr h' hu) (fun h=>by cases h) ⟨(ht t (by simp)).1,book_self t⟩ h1 (fun z hz=>hs z (by simp [hz])) (fun z hz=>hp z (by simp [hz]))
 | [], _ :: _, _, _, _, h, _, _ => h.elim
 | [], [], _ :: _, _, _, h, _, _ => h.elim
 | _ :: _, [], _, _, _, h, _, _ => h.elim
 | _ :: _, _ :: _, [], _, _, h, _, _ => h.elim
theorem Zdp {fn:Func} {f:FuncId} {s:ChangeSpec} {apart fresh handsOn again:Bool} {tb:TypeId} {d:Nat} (hl:laidOutB P=true) (hpar:∀ t∈fn.params.toList,Zal P d t=true∧t < P.types.size∧P.readableRec t=true)
  (hres:fn.resultTypes = #[tb]) (htb:P.underlying tb=some .bool) (hvars:s.vars = []) (hs:∀ ds,ds.length=fn.params.size→s.fn H ds = { results:=[.lit (.bool true)],args:=ds })
  (hcall:∀ xs:List AV,xs.length=fn.params.toList.length→(∀ (i:Nat) (t:TypeId) (x:AV),fn.params.toList[i]? = some t→xs[i]? = some x→Zb9 P d t x)→∃ outs,JI P f xs (B true) outs)
  (W:World) (base:Nat) (args:Array Value) (ds gs:List (DataW H)) (before:List MemPlace)
  (hval:∀ (j:Nat) t v,fn.params[j]? = some t→args[j]? = some v→Value.okWide P W .any base t v) (hW:DataW.Whole enc P fn.params.toList s.vars apart W args.toList ds gs before) :
  Calls P f args W fun e W'=>∃ v,e = .returned v∧s.post enc P fn apart fresh handsOn again W args v W':=by
 have hW':=hW
 obtain ⟨p,q,hA,hV,rfl,_,_⟩:=hW
 rw [hvars] at hV
 obtain ⟨rfl,rfl⟩:=ChangeShapes.trodVars_none hV
 obtain ⟨hlen,xs,hx1,hx2⟩:=ZeN (r:=.any) (base:=base) _ _ _ _ (fun t ht=>(hpar t ht).1) (fun j t v ht hv=>hval j t v (by simpa using ht) (by simpa using hv)) hA
 have hdl:ds.length=fn.params.size:=by
  have:∀ (ts:List TypeId) (vs:List Value) (ds:List (DataW H)) (ps:List MemPlace),DataW.TrodAll enc P W 0 (fun _=>true) true ts vs ds ps→ds.length=ts.length:=by
   intro ts
   induction ts with
   | nil => intro vs ds ps h; cases vs <;> cases ds <;> simp_all [DataW.TrodAll]
   | cons t ts ih =>
    intro vs ds ps h
    cases vs with
    | nil => exact h.elim
    | cons v vs =>
     cases ds with
     | nil => exact h.elim
     | cons x ds => obtain ⟨_, _, _, h2, _⟩ := h; simp [ih _ _ _ h2]
  simpa using this _ _ _ _ hA
 obtain ⟨outs,_,hc⟩:=hcall xs hx1 fun i t x ht hx=>by
  obtain ⟨v,hv⟩:∃ v,args.toList[i]? = some v:=⟨_,List.getElem?_eq_getElem (by rw [hlen];exact (List.getElem?_eq_some_iff.1 ht).1)⟩
  exact (hx2 i t x v ht hx hv).1
 have hng:xs.countP AV.isG=0:=by
  rw [List.countP_eq_zero]
  intro x hx hg
  obtain ⟨i,hi⟩:=List.mem_iff_getElem?.1 hx
  have hlt:=(List.getElem?_eq_some_iff.1 hi).1
  obtain ⟨v,hv⟩:∃ v,args.toList[i]? = some v:=⟨_,List.getElem?_eq_getElem (by omega)⟩
  obtain ⟨t,ht⟩:∃ t,fn.params.toList[i]? = some t:=⟨_,List.getElem?_eq_getElem (by omega)⟩
  have hr:=(hx2 i t x v ht hi hv).2 (fun _ _=>none) (fun _=>.dead) 0
  cases x<;>simp [AV.isG] at hg
  obtain ⟨v',b,_,_,h,_⟩:=hr
  cases h
 have hcalls:=hc W (KH W) (fun _ _=>none) args.toList (by rw [hng,hlen,hx1];exact Nat.le_refl _) (fun i=>by
  cases hxi:xs[i]? with
  | none =>
   have:ZM xs i = .dead:=by simp [ZM,hxi]
   rw [this]
   trivial
  | some x =>
   have hi:=(List.getElem?_eq_some_iff.1 hxi).1
   obtain ⟨v,hv⟩:∃ v,args.toList[i]? = some v:=⟨_,List.getElem?_eq_getElem (by omega)⟩
   obtain ⟨t,ht⟩:∃ t,fn.params.toList[i]? = some t:=⟨_,List.getElem?_eq_getElem (by omega)⟩
   have h1:ZM xs i=x:=by simp [ZM,hxi]
   have h2:args.toList.getD i undef=v:=by rw [List.getD_eq_getElem?_getD,hv];rfl
   rw [h1,h2]
   exact (hx2 i t x v ht hxi hv).2 _ _ _) (fun _ _ _ _ _ h=>by cases h) (fun _ _ _ h=>by cases h)
 rw [Array.toArray_toList] at hcalls
 refine hcalls.mono ?_
 rintro e W' ⟨v,lim',X',rfl,hst,hol,hrel,_,_,_⟩
 have hv:v = .bool true:=by
  have h:=hrel xs.length
  have h1:ZM (outs++[B true]) xs.length=B true:=by
   simp only [ZM]
   rw [List.getElem?_append_right (by omega),hol]
   simp
  have h2:WX xs.length args.toList v xs.length=v:=if_pos rfl
  rw [h1,h2] at h
  exact K4 h
 subst hv
 have hkept:∀ b,b < W.heap.size→W'.heap[b]? = W.heap[b]?:=fun b hb=>(hst.blk b hb (by rintro ⟨_,_,h⟩;cases h)).1
 have hsame:∀ z∈p++[],W.sameAt W' z:=by
  intro z hz
  have hlt:=hW'.lt z hz
  cases z with
  | cell b off =>
   show W'.cell? ⟨b,off,none⟩=W.cell? ⟨b,off,none⟩
   unfold World.cell?
   rw [hkept b hlt]
  | map b => exact hkept b hlt
 refine ⟨_,rfl,Zh4 (pa:=p) hW' (fun b sp hd=>?_) (fun sp hp=>?_) (fun sp _=>?_) rfl ?_ hst.frz ?_⟩
 ·rw [hs _ (by simpa using hdl),hres]
  exact ⟨[],[],⟨1,by simp [DataW.trod,htb,Value.cells]⟩,rfl,rfl⟩
 ·rw [hs _ (by simpa using hdl),List.append_nil]
  exact Ze8 hl _ _ _ _ (fun t ht=>(hpar t ht).2) hA (fun z hz=>hsame z (by simpa using hz)) (fun z hz=>hp z (by simpa using hz))
 ·rw [hs _ (by simpa using hdl),hvars]
  rfl
 ·refine ⟨hst.os,hst.output,fun i hi=>?_⟩
  rw [hkept i hi]
  cases W.heap[i]? with
  | none => rfl
  | some o => cases o <;> simp
 ·exact RowKit.ok_one hres rfl (RowKit.okWide_bool_mk htb true)
end
end Go.AM
end

section
namespace Go.AM
open Go
set_option linter.unusedSimpArgs false
set_option linter.unusedVariables false
def blank:Char:=Char.ofNat 32
theorem ZfQ (r:List Char):wordsSigns (blank::r) = []::wordsSigns r:=by
 show wordsSigns (Char.ofNat 32::r)=_
 rw [wordsSigns]
theorem ZfG (c:Char) (r:List Char) (h:c≠blank):wordsSigns (c::r)=match wordsSigns r with | w::ws=>(c::w)::ws | []=>[[c]]:=by
 rw [wordsSigns]
 ·rfl
 ·exact h
theorem Ve (r:List Char):∀ (w:List Char),(w.all fun c=>c != blank)=true→wordsSigns (w++blank::r)=w::wordsSigns r
 | [], _ => ZfQ r
 | c :: w, h => by
  rw [List.all_cons,Bool.and_eq_true] at h
  rw [List.cons_append,ZfG c _ (by simpa using h.1),Ve r w h.2]
theorem Ze6 {L:List Char} (h1:((L.take 7).all fun c=>c != blank)=true) (h2:(((L.drop 8).take 64).all fun c=>c != blank)=true) (h3:(((L.drop 73).take 3).all fun c=>c != blank)=true)
  (hL : L = L.take 7 ++ blank :: ((L.drop 8).take 64 ++ blank :: ((L.drop 73).take 3 ++ blank :: L.drop 77))) (hm : ((L.take 7 == "harness".toList || L.take 7 == "ownmain".toList) && isSumSigns ((L.drop 8).take 64)) = true)
  (hc : (L.drop 73).take 3 = "cut".toList) : ∃ ws, behindMainWord (wordsSigns L) = "cut".toList :: ws := by
 refine ⟨wordsSigns (L.drop 77),?_⟩
 have h:wordsSigns L=L.take 7::(L.drop 8).take 64::(L.drop 73).take 3::wordsSigns (L.drop 77):=by
  rw [hL,Ve _ _ h1,Ve _ _ h2,Ve _ _ h3,← hL]
 rw [h,behindMainWord,if_pos hm,hc]
theorem enters_of {P : Program} {ws : List (List Char)} (h : behindMainWord (wordsSigns P.initOrder.toList) = "cut".toList :: ws) (h1 : P.laysLater = false) (h2 : P.bearsReflect = false) (h3 : P.doorFits [] = true) : P.mayEnter = true := by
 unfold Program.mayEnter
 rw [h]
 have hs : stripLifts liftWords ("cut".toList :: ws) = ([], "cut".toList :: ws) := by kernel_rfl
 simp only [hs]
 simp [h1,h2,h3]
theorem lifts_of {P : Program} {ws : List (List Char)} (h : behindMainWord (wordsSigns P.initOrder.toList) = "cut".toList :: ws) : P.headLifts = [] := by
 unfold Program.headLifts
 rw [h]
 have hs : stripLifts liftWords ("cut".toList :: ws) = ([], "cut".toList :: ws) := by kernel_rfl
 simp only [hs]
 simp
theorem final_of {P : Program} {ws : List (List Char)} (h : behindMainWord (wordsSigns P.initOrder.toList) = "cut".toList :: ws) : P.liftsFinal = false := by
 unfold Program.liftsFinal
 rw [lifts_of h,h]
 have hs : ("cut".toList == "carried".toList) = false := by decide +kernel
 simp [hs]
theorem make_of {P : Program} {ws : List (List Char)} (h : behindMainWord (wordsSigns P.initOrder.toList) = "cut".toList :: ws) : P.make = some .cut := by
 unfold Program.make
 rw [h]
 simp
end Go.AM
end

section
namespace Go.Proofs.YtlgmnddelljbmaaGreat
open Go Go.AM
set_option maxRecDepth 100000
theorem behind : ∃ ws, behindMainWord (wordsSigns Tryz.prog.initOrder.toList) = "cut".toList :: ws := by
 have h:Tryz.prog.initOrder.toList=_:=String.toList_ofList (l:=_)
 rw [h]
 exact Ze6 (by kernel_rfl) (by kernel_rfl) (by kernel_rfl) (by kernel_rfl) (by kernel_rfl) (by kernel_rfl)
theorem ZpG:Tryz.prog.mayEnter=true:=behind.elim fun _ h=>Go.AM.enters_of h (by kernel_rfl) (by kernel_rfl) (by kernel_rfl)
theorem ZtA:Tryz.prog.liftsFinal=false:=behind.elim fun _ h=>Go.AM.final_of h
theorem ZoP:Tryz.prog.make=some .cut:=behind.elim fun _ h=>Go.AM.make_of h
theorem Zvo:laidOutB Tryz.prog=true:=by kernel_rfl
theorem ZiW:ownKnob Tryz.prog.godebug=none:=by kernel_rfl
theorem Wm {d:Nat} {cs:List AV} (h:TyR Tryz.prog (d+1) 3 cs):∃ z,cs = [I z]:=by
 simp only [TyR,Tryz.underlying3] at h
 obtain ⟨z,h,_⟩:=h
 exact ⟨z,h⟩
theorem Zi7 {d:Nat} {cs:List AV} (h:TyR Tryz.prog (d+1) 4 cs):∃ z,cs = [B z]:=by
 simp only [TyR,Tryz.underlying4] at h
 exact h
theorem arg_int {x:AV} (h:Zb9 Tryz.prog 12 3 x):∃ z,x=I z:=by
 simp only [Zb9,Tryz.underlying3] at h
 obtain ⟨z,hz⟩:=Wm h.2
 exact ⟨z,by simpa using hz⟩
def Zht (z:Int):List AV:=[I z]
def Za (l:List Int):List (List AV):=l.map Zht
structure Id where
 core:Int
 op:Int
 part:Int
 deriving DecidableEq
def idc (i:Id):List AV:=[I i.core,I i.op,I i.part]
def Zb (l:List Id):List (List AV):=l.map idc
theorem Ze7 {α β:Type} {f:α→β} {p:α→Prop} : ∀ (xs:List β),(∀ x∈xs,∃ a,x=f a∧p a)→∃ l:List α,xs=l.map f∧∀ a∈l,p a
 | [], _ => ⟨[], rfl, by simp⟩
 | x :: xs, h => by
  obtain ⟨a,h1,h2⟩:=h x (by simp)
  obtain ⟨l,h3,h4⟩:=Ze7 xs fun y hy=>h y (by simp [hy])
  refine ⟨a::l,by rw [h1,h3];rfl,fun b hb=>?_⟩
  rcases List.mem_cons.1 hb with rfl | hb
  ·exact h2
  ·exact h4 b hb
def ZmR:List TypeId:=[3,4,52,22]
theorem ZsC (t:TypeId) (h:ZmR.contains t=true):Zal Tryz.prog 12 t=true∧t < Tryz.prog.types.size∧Tryz.prog.readableRec t=true:=by
 have h2:ZmR.all (fun t=>Zal Tryz.prog 12 t&&decide (t < Tryz.prog.types.size)&&Tryz.prog.readableRec t)=true:=by kernel_rfl
 rw [List.all_eq_true] at h2
 have:=h2 t (by simpa using h)
 simpa [and_assoc] using this
end Go.Proofs.YtlgmnddelljbmaaGreat
end
