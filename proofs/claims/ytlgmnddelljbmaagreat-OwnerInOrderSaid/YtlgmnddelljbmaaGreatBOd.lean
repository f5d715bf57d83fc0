/- Functions of the program, as what they compute. -/
import Derived.Test.YtlgmnddelljbmaaGreatFOc
namespace Go.Proofs.YtlgmnddelljbmaaGreat
open Go Go.AM
set_option linter.unusedVariables false
set_option maxRecDepth 100000
noncomputable def Zkb:Fn:=⟨61,[2,3],[],[0],0,[],[],Tryz.f159,[.box hs4],[.agg hs20,.c (.bool)],[(84,F84.S)]⟩
theorem Zj3:Zkb.S.Ok Tryz.prog 159:=Zkb.ok Tryz.func159 (by kernel_rfl) ⟨Zmi,trivial⟩
noncomputable def Zo5 (x0 x1 x2:Int) (x3:Bool) (x4 x5:LL) (x6 x7 x8 x9 x10 x11 x12 x13 x14 x15 x16 x17 x18 x19 x20 x21 x22 x23 x24 x25:Int) (x26:LL) (x27 x28 x29 x30 x31 x32:Int) (x33:Bool) (x34:Int) (x35 x36 x37:LL):Option (Qt9):=Zkb.S.g [.i x0,.i x1,.i x2,.b x3,.l x4,.l x5,.i x6,.i x7,.i x8,.i x9,.i x10,.i x11,.i x12,.i x13,.i x14,.i x15,.i x16,.i x17,.i x18,.i x19,.i x20,.i x21,.i x22,.i x23,.i x24,.i x25,.l x26,.i x27,.i x28,.i x29,.i x30,.i x31,.i x32,.b x33,.i x34,.l x35,.l x36,.l x37]
noncomputable def Znl:Fn:=⟨118,[14,15],[(20,[(1,.c (.int .i64)),(2,.c (.int .i64)),(3,.c (.int .i64)),(4,.c (.int .i64)),(5,.c (.int .i64)),(7,.box hs22),(16,.c (.int .i64)),(17,.c (.own false 36)),(92,.c (.int .i64)),(93,.c (.int .i64))])],[],0,[],[],Tryz.f202,[.agg hs22,.c (.int .i64),.c (.int .i64),.c (.int .i64),.c (.int .i64),.c (.int .i64),.c (.int .i64)],[.c (.own false 36),.c (.int .i64)],[(152,Zlc.S),(194,Zmc.S),(197,ZlY.S)]⟩
theorem Zn8:Znl.S.Ok Tryz.prog 202:=Znl.ok Tryz.func202 (by kernel_rfl) ⟨Zj6,⟨Zk7,⟨ZkW,trivial⟩⟩⟩
noncomputable def Znp:Fn:=⟨9,[4],[],[],0,[],[],Tryz.f206,[.agg hs20,.agg [.int .i64,.int .i64,.int .i64]],[.c (.bool)],[(153,Zmo.S)]⟩
theorem Zm8:Znp.S.Ok Tryz.prog 206:=Znp.ok Tryz.func206 (by kernel_rfl) ⟨ZkJ,trivial⟩
noncomputable def Zme:Fn:=⟨48,[6,7],[],[],0,[],[],Tryz.f203,[.agg hs20,.agg [.int .i64,.int .i64,.int .i64],.agg hs22],[.agg hs20,.c (.int .i64)],[(93,F93.S),(150,ZiF.S),(152,Zlc.S),(206,Znp.S),(147,Zk2.S)]⟩
theorem ZkQ:Zme.S.Ok Tryz.prog 203:=Zme.ok Tryz.func203 (by kernel_rfl) ⟨Zll,⟨ZgV,⟨Zj6,⟨Zm8,⟨Zlm,trivial⟩⟩⟩⟩⟩
noncomputable def ZlZ:Fn:=⟨119,[2,3],[(12,[(0,.box hs4),(4,.box hs8),(5,.box [.int .i64,.int .i64,.int .i64,.int .i64,.int .i64,.int .i64,.int .i64,.int .i64,.int .i64,.int .i64,.int .i64,.int .i64]),(6,.box hs20),(8,.c (.slice 7)),(10,.c (.own false 40)),(73,.c (.slice 7)),(74,.c (.int .i64)),(75,.c (.int .i64))])],[0],0,[],[],Tryz.f156,[.box hs4],[.c (.own false 40),.c (.int .i64)],[(159,Zkb.S),(202,Znl.S),(203,Zme.S),(201,ZfA.S)]⟩
theorem Zni:ZlZ.S.Ok Tryz.prog 156:=ZlZ.ok Tryz.func156 (by kernel_rfl) ⟨Zj3,⟨Zn8,⟨ZkQ,⟨Zkv,trivial⟩⟩⟩⟩
noncomputable def Zo4 (x0 x1 x2:Int) (x3:Bool) (x4 x5:LL) (x6 x7 x8 x9 x10 x11 x12 x13 x14 x15 x16 x17 x18 x19 x20 x21 x22 x23 x24 x25:Int) (x26:LL) (x27 x28 x29 x30 x31 x32:Int) (x33:Bool) (x34:Int) (x35 x36 x37:LL):Option (Qt10):=ZlZ.S.g [.i x0,.i x1,.i x2,.b x3,.l x4,.l x5,.i x6,.i x7,.i x8,.i x9,.i x10,.i x11,.i x12,.i x13,.i x14,.i x15,.i x16,.i x17,.i x18,.i x19,.i x20,.i x21,.i x22,.i x23,.i x24,.i x25,.l x26,.i x27,.i x28,.i x29,.i x30,.i x31,.i x32,.b x33,.i x34,.l x35,.l x36,.l x37]
noncomputable def Zon:Fn:=⟨11,[4],[],[],0,[],[],Tryz.f204,[.agg hs22,.c (.int .i64)],[.agg hs22],[]⟩
theorem Zmy:Zon.S.Ok Tryz.prog 204:=Zon.ok Tryz.func204 (by kernel_rfl) trivial
noncomputable def ZlA:Fn:=⟨57,[4,5],[],[0],0,[],[],Tryz.f157,[.box hs4,.c (.int .i64)],[.c (.own false 40),.c (.int .i64)],[(159,Zkb.S),(204,Zon.S),(203,Zme.S)]⟩
theorem ZkX:ZlA.S.Ok Tryz.prog 157:=ZlA.ok Tryz.func157 (by kernel_rfl) ⟨Zj3,⟨Zmy,⟨ZkQ,trivial⟩⟩⟩
noncomputable def ZoU (x0 x1 x2:Int) (x3:Bool) (x4 x5:LL) (x6 x7 x8 x9 x10 x11 x12 x13 x14 x15 x16 x17 x18 x19 x20 x21 x22 x23 x24 x25:Int) (x26:LL) (x27 x28 x29 x30 x31 x32:Int) (x33:Bool) (x34:Int) (x35 x36 x37:LL) (x38:Int):Option (Qt10):=ZlA.S.g [.i x0,.i x1,.i x2,.b x3,.l x4,.l x5,.i x6,.i x7,.i x8,.i x9,.i x10,.i x11,.i x12,.i x13,.i x14,.i x15,.i x16,.i x17,.i x18,.i x19,.i x20,.i x21,.i x22,.i x23,.i x24,.i x25,.l x26,.i x27,.i x28,.i x29,.i x30,.i x31,.i x32,.b x33,.i x34,.l x35,.l x36,.l x37,.i x38]
noncomputable def Zmn:Fn:=⟨67,[2],[],[0],0,[46],[],Tryz.f158,[.box hs4],[.c (.own false 65)],[(47,F47.S),(157,ZlA.S),(199,Zki.S),(103,Zke.S),(87,F87.S)]⟩
theorem Zne:Zmn.S.Ok Tryz.prog 158:=Zmn.ok Tryz.func158 (by kernel_rfl) ⟨Zl1,⟨ZkX,⟨ZlD,⟨Zjp,⟨Zlt,trivial⟩⟩⟩⟩⟩
noncomputable def Zpm (x0 x1 x2:Int) (x3:Bool) (x4 x5:LL) (x6 x7 x8 x9 x10 x11 x12 x13 x14 x15 x16 x17 x18 x19 x20 x21 x22 x23 x24 x25:Int) (x26:LL) (x27 x28 x29 x30 x31 x32:Int) (x33:Bool) (x34:Int) (x35 x36 x37:LL):Option (Qt13):=Zmn.S.g [.i x0,.i x1,.i x2,.b x3,.l x4,.l x5,.i x6,.i x7,.i x8,.i x9,.i x10,.i x11,.i x12,.i x13,.i x14,.i x15,.i x16,.i x17,.i x18,.i x19,.i x20,.i x21,.i x22,.i x23,.i x24,.i x25,.l x26,.i x27,.i x28,.i x29,.i x30,.i x31,.i x32,.b x33,.i x34,.l x35,.l x36,.l x37]
noncomputable def F160.S:Fun:=⟨[.box hs4,.agg hs20],[.c (.own false 65)],fun _=>none⟩
theorem Zom:F160.S.Ok Tryz.prog 160:=fun vs r h=>(by cases h)
noncomputable def Zpg (x0 x1 x2:Int) (x3:Bool) (x4 x5:LL) (x6 x7 x8 x9 x10 x11 x12 x13 x14 x15 x16 x17 x18 x19 x20 x21 x22 x23 x24 x25:Int) (x26:LL) (x27 x28 x29 x30 x31 x32:Int) (x33:Bool) (x34:Int) (x35 x36 x37:LL) (x38 x39 x40:Int) (x41:LL) (x42 x43 x44 x45 x46 x47:Int) (x48:Bool):Option (Qt13):=F160.S.g [.i x0,.i x1,.i x2,.b x3,.l x4,.l x5,.i x6,.i x7,.i x8,.i x9,.i x10,.i x11,.i x12,.i x13,.i x14,.i x15,.i x16,.i x17,.i x18,.i x19,.i x20,.i x21,.i x22,.i x23,.i x24,.i x25,.l x26,.i x27,.i x28,.i x29,.i x30,.i x31,.i x32,.b x33,.i x34,.l x35,.l x36,.l x37,.i x38,.i x39,.i x40,.l x41,.i x42,.i x43,.i x44,.i x45,.i x46,.i x47,.b x48]
end Go.Proofs.YtlgmnddelljbmaaGreat
