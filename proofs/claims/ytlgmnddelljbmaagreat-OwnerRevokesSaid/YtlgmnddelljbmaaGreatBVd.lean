/- Functions of the program, as what they compute. -/
import Derived.Test.YtlgmnddelljbmaaGreatFVd
namespace Go.Proofs.YtlgmnddelljbmaaGreat
open Go Go.AM
set_option linter.unusedVariables false
set_option maxRecDepth 100000
noncomputable def Zt3:Fn:=⟨118,[14,15],[(20,[(1,.c (.int .i64)),(2,.c (.int .i64)),(3,.c (.int .i64)),(4,.c (.int .i64)),(5,.c (.int .i64)),(7,.box hs22),(16,.c (.int .i64)),(17,.c (.own false 36)),(92,.c (.int .i64)),(93,.c (.int .i64))])],[],0,[],[],Tryz.f202,[.agg hs22,.c (.int .i64),.c (.int .i64),.c (.int .i64),.c (.int .i64),.c (.int .i64),.c (.int .i64)],[.c (.own false 36),.c (.int .i64)],[(152,ZoK.S),(194,Zph.S),(197,Zo8.S)]⟩
theorem Zth:Zt3.S.Ok Tryz.prog 202:=Zt3.ok Tryz.func202 (by kernel_rfl) ⟨Zoh,⟨ZpE,⟨ZoV,trivial⟩⟩⟩
noncomputable def ZrL:Fn:=⟨119,[2,3],[(12,[(0,.box hs4),(4,.box hs7),(5,.box [.int .i64,.int .i64,.int .i64,.int .i64,.int .i64,.int .i64,.int .i64,.int .i64,.int .i64,.int .i64,.int .i64,.int .i64]),(6,.box hs19),(8,.c (.slice 7)),(10,.c (.own false 40)),(73,.c (.slice 7)),(74,.c (.int .i64)),(75,.c (.int .i64))])],[0],0,[],[],Tryz.f156,[.box hs4],[.c (.own false 40),.c (.int .i64)],[(159,ZoJ.S),(202,Zt3.S),(203,Zre.S),(201,ZrX.S)]⟩
theorem ZsZ:ZrL.S.Ok Tryz.prog 156:=ZrL.ok Tryz.func156 (by kernel_rfl) ⟨Zm2,⟨Zth,⟨Zpw,⟨Zpd,trivial⟩⟩⟩⟩
noncomputable def Zu9 (x0 x1 x2:Int) (x3:Bool) (x4 x5:LL) (x6 x7 x8 x9 x10 x11 x12 x13 x14 x15 x16 x17 x18 x19 x20 x21 x22 x23 x24 x25:Int) (x26:LL) (x27 x28 x29 x30 x31 x32:Int) (x33:Bool) (x34:Int) (x35 x36 x37:LL):Option (Qt9):=ZrL.S.g [.i x0,.i x1,.i x2,.b x3,.l x4,.l x5,.i x6,.i x7,.i x8,.i x9,.i x10,.i x11,.i x12,.i x13,.i x14,.i x15,.i x16,.i x17,.i x18,.i x19,.i x20,.i x21,.i x22,.i x23,.i x24,.i x25,.l x26,.i x27,.i x28,.i x29,.i x30,.i x31,.i x32,.b x33,.i x34,.l x35,.l x36,.l x37]
end Go.Proofs.YtlgmnddelljbmaaGreat
