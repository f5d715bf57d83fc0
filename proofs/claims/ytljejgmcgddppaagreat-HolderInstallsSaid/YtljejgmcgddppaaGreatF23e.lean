/- Functions of the program, as what they compute. -/
import Derived.Test.YtljejgmcgddppaaGreatF23d
namespace Go.Proofs.YtljejgmcgddppaaGreat
open Go Go.AM
set_option linter.unusedVariables false
set_option maxRecDepth 100000
noncomputable def F4:Fn:=⟨70,[10],[(4,[(0,.c (.int .i64)),(1,.c (.slice 15)),(2,.c (.int .i64)),(8,.box [.int .i64,.int .i64,.int .i64]),(9,.box hs0),(11,.c (.int .i64))])],[],0,[],[],Tryz.f4,[.c (.int .i64),.c (.slice 15),.c (.int .i64),.agg [.int .i64,.int .i64,.int .i64],.agg hs0],[.c (.bool)],[(7,F7.S),(9,F9.S),(13,F13.S)]⟩
noncomputable def g4 (x0:Int) (x1:LL) (x2 x3 x4 x5 x6 x7 x8 x9 x10 x11 x12 x13 x14 x15 x16:Int) (x17:Bool) (x18 x19 x20 x21 x22 x23 x24 x25 x26 x27 x28 x29 x30 x31 x32 x33 x34 x35 x36 x37:Int) (x38:LL) (x39 x40 x41 x42 x43 x44:Int) (x45:Bool) (x46 x47 x48 x49:LL) (x50 x51:Int) (x52 x53 x54 x55 x56 x57 x58 x59:LL) (x60 x61:Int) (x62 x63 x64 x65 x66 x67 x68 x69:LL) (x70:Bool) (x71:Int) (x72 x73 x74 x75 x76 x77 x78 x79:LL):Option (Bool):=F4.S.g [.i x0,.l x1,.i x2,.i x3,.i x4,.i x5,.i x6,.i x7,.i x8,.i x9,.i x10,.i x11,.i x12,.i x13,.i x14,.i x15,.i x16,.b x17,.i x18,.i x19,.i x20,.i x21,.i x22,.i x23,.i x24,.i x25,.i x26,.i x27,.i x28,.i x29,.i x30,.i x31,.i x32,.i x33,.i x34,.i x35,.i x36,.i x37,.l x38,.i x39,.i x40,.i x41,.i x42,.i x43,.i x44,.b x45,.l x46,.l x47,.l x48,.l x49,.i x50,.i x51,.l x52,.l x53,.l x54,.l x55,.l x56,.l x57,.l x58,.l x59,.i x60,.i x61,.l x62,.l x63,.l x64,.l x65,.l x66,.l x67,.l x68,.l x69,.b x70,.i x71,.l x72,.l x73,.l x74,.l x75,.l x76,.l x77,.l x78,.l x79]
noncomputable def F3:Fn:=⟨60,[12],[],[],0,[],[],Tryz.f3,[.c (.int .i64),.c (.slice 1),.c (.slice 10),.c (.int .i64),.c (.slice 1),.c (.int .i64)],[.c (.bool)],[(7,F7.S),(8,F8.S),(9,F9.S),(10,F10.S),(11,F11.S),(12,F12.S),(13,F13.S)]⟩
noncomputable def g3 (x0:Int) (x1 x2:LL) (x3:Int) (x4:LL) (x5:Int):Option (Bool):=F3.S.g [.i x0,.l x1,.l x2,.i x3,.l x4,.i x5]
theorem Zwc (x0:Int) (x1 x2:LL) (x3:Int) (x4:LL) (x5:Int):g3 x0 x1 x2 x3 x4 x5 =
 (if (cop .gtr (List.length x1:Int) 60)=true then
 (g7).bind fun (r6:Bool)=>
 some (r6)
 else
 if (cop .gtr (List.length x4:Int) 60)=true then
 (g7).bind fun (r6:Bool)=>
 some (r6)
 else
 (g8 x2).bind fun (r6:LL)=>
 (g9 x0 4).bind fun (r7:Int)=>
 (g10 x1 r6 r7).bind fun (r8:Qt19)=>
 (g11 x3 x4 r6).bind fun (r14:Qt2)=>
 (g9 x5 8).bind fun (r88:Int)=>
 if (cop .gtr r88 0)=true then
 if (cop .eql r14.1 6)=true then
 (g12 r6 x4).bind fun (r89:LL)=>
 (g13 r7 r8.1 r8.2.2.1 r14.1 r14.2.1 r14.2.2.1 r7 r14.2.2.2.2.1 r14.2.2.2.2.2.1 r14.2.2.2.2.2.2.1 r14.2.2.2.2.2.2.2.1 r14.2.2.2.2.2.2.2.2.1 r14.2.2.2.2.2.2.2.2.2.1 r14.2.2.2.2.2.2.2.2.2.2.1 r14.2.2.2.2.2.2.2.2.2.2.2.1 (d4 (d8 r14)).1 (d4 (d8 r14)).2.1 (d2 (d4 (d8 r14))).1 (d2 (d4 (d8 r14))).2.1 (d16 r14).1 (d16 r14).2.1 (d2 (d16 r14)).1 (d2 (d16 r14)).2.1 (d4 (d16 r14)).1 (d4 (d16 r14)).2.1 (d2 (d4 (d16 r14))).1 (d2 (d4 (d16 r14))).2.1 (d8 (d16 r14)).1 (d8 (d16 r14)).2.1 (d2 (d8 (d16 r14))).1 (d2 (d8 (d16 r14))).2.1 (d4 (d8 (d16 r14))).1 (d4 (d8 (d16 r14))).2.1 (d2 (d4 (d8 (d16 r14)))).1 (d2 (d4 (d8 (d16 r14)))).2.1 (d16 (d16 r14)).1 (d16 (d16 r14)).2.1 (d2 (d16 (d16 r14))).1 (d2 (d16 (d16 r14))).2.1 (d4 (d16 (d16 r14))).1 (d4 (d16 (d16 r14))).2.1 (d2 (d4 (d16 (d16 r14)))).1 (d2 (d4 (d16 (d16 r14)))).2.1 r89 (d8 (d16 (d16 r14))).2.1 (d2 (d8 (d16 (d16 r14)))).1 (d2 (d8 (d16 (d16 r14)))).2.1 (d4 (d8 (d16 (d16 r14)))).1 (d4 (d8 (d16 (d16 r14)))).2.1 (d2 (d4 (d8 (d16 (d16 r14))))).1 (d2 (d4 (d8 (d16 (d16 r14))))).2.1 (d16 (d16 (d16 r14))).1 (d16 (d16 (d16 r14))).2.1 (d2 (d16 (d16 (d16 r14)))).1 (d2 (d16 (d16 (d16 r14)))).2.1 (d4 (d16 (d16 (d16 r14)))).1 (d4 (d16 (d16 (d16 r14)))).2.1 (d2 (d4 (d16 (d16 (d16 r14))))).1 (d2 (d4 (d16 (d16 (d16 r14))))).2.1 (d8 (d16 (d16 (d16 r14)))).1 (d8 (d16 (d16 (d16 r14)))).2.1 (d2 (d8 (d16 (d16 (d16 r14))))).1 (d2 (d8 (d16 (d16 (d16 r14))))).2.1 (d4 (d8 (d16 (d16 (d16 r14))))).1 (d4 (d8 (d16 (d16 (d16 r14))))).2.1 (d2 (d4 (d8 (d16 (d16 (d16 r14)))))).1 (d2 (d4 (d8 (d16 (d16 (d16 r14)))))).2.1 (d16 (d16 (d16 (d16 r14)))).1 (d16 (d16 (d16 (d16 r14)))).2.1 (d2 (d16 (d16 (d16 (d16 r14))))).1 (d2 (d16 (d16 (d16 (d16 r14))))).2.1 (d4 (d16 (d16 (d16 (d16 r14))))).1 (d4 (d16 (d16 (d16 (d16 r14))))).2.1 (d2 (d4 (d16 (d16 (d16 (d16 r14)))))).1 (d2 (d4 (d16 (d16 (d16 (d16 r14)))))).2.1 (d8 (d16 (d16 (d16 (d16 r14))))).1 (d8 (d16 (d16 (d16 (d16 r14))))).2).bind fun (r90:Bool)=>
 if r90=true then
 (g7).bind fun (r91:Bool)=>
 some (r91)
 else
 some (false)
 else
 (g13 r7 r8.1 r8.2.2.1 r14.1 r14.2.1 r14.2.2.1 r7 r14.2.2.2.2.1 r14.2.2.2.2.2.1 r14.2.2.2.2.2.2.1 r14.2.2.2.2.2.2.2.1 r14.2.2.2.2.2.2.2.2.1 r14.2.2.2.2.2.2.2.2.2.1 r14.2.2.2.2.2.2.2.2.2.2.1 r14.2.2.2.2.2.2.2.2.2.2.2.1 (d4 (d8 r14)).1 (d4 (d8 r14)).2.1 (d2 (d4 (d8 r14))).1 (d2 (d4 (d8 r14))).2.1 (d16 r14).1 (d16 r14).2.1 (d2 (d16 r14)).1 (d2 (d16 r14)).2.1 (d4 (d16 r14)).1 (d4 (d16 r14)).2.1 (d2 (d4 (d16 r14))).1 (d2 (d4 (d16 r14))).2.1 (d8 (d16 r14)).1 (d8 (d16 r14)).2.1 (d2 (d8 (d16 r14))).1 (d2 (d8 (d16 r14))).2.1 (d4 (d8 (d16 r14))).1 (d4 (d8 (d16 r14))).2.1 (d2 (d4 (d8 (d16 r14)))).1 (d2 (d4 (d8 (d16 r14)))).2.1 (d16 (d16 r14)).1 (d16 (d16 r14)).2.1 (d2 (d16 (d16 r14))).1 (d2 (d16 (d16 r14))).2.1 (d4 (d16 (d16 r14))).1 (d4 (d16 (d16 r14))).2.1 (d2 (d4 (d16 (d16 r14)))).1 (d2 (d4 (d16 (d16 r14)))).2.1 (d8 (d16 (d16 r14))).1 (d8 (d16 (d16 r14))).2.1 (d2 (d8 (d16 (d16 r14)))).1 (d2 (d8 (d16 (d16 r14)))).2.1 (d4 (d8 (d16 (d16 r14)))).1 (d4 (d8 (d16 (d16 r14)))).2.1 (d2 (d4 (d8 (d16 (d16 r14))))).1 (d2 (d4 (d8 (d16 (d16 r14))))).2.1 (d16 (d16 (d16 r14))).1 (d16 (d16 (d16 r14))).2.1 (d2 (d16 (d16 (d16 r14)))).1 (d2 (d16 (d16 (d16 r14)))).2.1 (d4 (d16 (d16 (d16 r14)))).1 (d4 (d16 (d16 (d16 r14)))).2.1 (d2 (d4 (d16 (d16 (d16 r14))))).1 (d2 (d4 (d16 (d16 (d16 r14))))).2.1 (d8 (d16 (d16 (d16 r14)))).1 (d8 (d16 (d16 (d16 r14)))).2.1 (d2 (d8 (d16 (d16 (d16 r14))))).1 (d2 (d8 (d16 (d16 (d16 r14))))).2.1 (d4 (d8 (d16 (d16 (d16 r14))))).1 (d4 (d8 (d16 (d16 (d16 r14))))).2.1 (d2 (d4 (d8 (d16 (d16 (d16 r14)))))).1 (d2 (d4 (d8 (d16 (d16 (d16 r14)))))).2.1 (d16 (d16 (d16 (d16 r14)))).1 (d16 (d16 (d16 (d16 r14)))).2.1 (d2 (d16 (d16 (d16 (d16 r14))))).1 (d2 (d16 (d16 (d16 (d16 r14))))).2.1 (d4 (d16 (d16 (d16 (d16 r14))))).1 (d4 (d16 (d16 (d16 (d16 r14))))).2.1 (d2 (d4 (d16 (d16 (d16 (d16 r14)))))).1 (d2 (d4 (d16 (d16 (d16 (d16 r14)))))).2.1 (d8 (d16 (d16 (d16 (d16 r14))))).1 (d8 (d16 (d16 (d16 (d16 r14))))).2).bind fun (r89:Bool)=>
 if r89=true then
 (g7).bind fun (r90:Bool)=>
 some (r90)
 else
 some (false)
 else
 if (cop .eql r14.1 6)=true then
 (g12 r6 x4).bind fun (r89:LL)=>
 (g13 r7 r8.1 r8.2.2.1 r14.1 r14.2.1 r14.2.2.1 r14.2.2.2.1 r14.2.2.2.2.1 r14.2.2.2.2.2.1 r14.2.2.2.2.2.2.1 r14.2.2.2.2.2.2.2.1 r14.2.2.2.2.2.2.2.2.1 r14.2.2.2.2.2.2.2.2.2.1 r14.2.2.2.2.2.2.2.2.2.2.1 r14.2.2.2.2.2.2.2.2.2.2.2.1 (d4 (d8 r14)).1 (d4 (d8 r14)).2.1 (d2 (d4 (d8 r14))).1 (d2 (d4 (d8 r14))).2.1 (d16 r14).1 (d16 r14).2.1 (d2 (d16 r14)).1 (d2 (d16 r14)).2.1 (d4 (d16 r14)).1 (d4 (d16 r14)).2.1 (d2 (d4 (d16 r14))).1 (d2 (d4 (d16 r14))).2.1 (d8 (d16 r14)).1 (d8 (d16 r14)).2.1 (d2 (d8 (d16 r14))).1 (d2 (d8 (d16 r14))).2.1 (d4 (d8 (d16 r14))).1 (d4 (d8 (d16 r14))).2.1 (d2 (d4 (d8 (d16 r14)))).1 (d2 (d4 (d8 (d16 r14)))).2.1 (d16 (d16 r14)).1 (d16 (d16 r14)).2.1 (d2 (d16 (d16 r14))).1 (d2 (d16 (d16 r14))).2.1 (d4 (d16 (d16 r14))).1 (d4 (d16 (d16 r14))).2.1 (d2 (d4 (d16 (d16 r14)))).1 (d2 (d4 (d16 (d16 r14)))).2.1 r89 (d8 (d16 (d16 r14))).2.1 (d2 (d8 (d16 (d16 r14)))).1 (d2 (d8 (d16 (d16 r14)))).2.1 (d4 (d8 (d16 (d16 r14)))).1 (d4 (d8 (d16 (d16 r14)))).2.1 (d2 (d4 (d8 (d16 (d16 r14))))).1 (d2 (d4 (d8 (d16 (d16 r14))))).2.1 (d16 (d16 (d16 r14))).1 (d16 (d16 (d16 r14))).2.1 (d2 (d16 (d16 (d16 r14)))).1 (d2 (d16 (d16 (d16 r14)))).2.1 (d4 (d16 (d16 (d16 r14)))).1 (d4 (d16 (d16 (d16 r14)))).2.1 (d2 (d4 (d16 (d16 (d16 r14))))).1 (d2 (d4 (d16 (d16 (d16 r14))))).2.1 (d8 (d16 (d16 (d16 r14)))).1 (d8 (d16 (d16 (d16 r14)))).2.1 (d2 (d8 (d16 (d16 (d16 r14))))).1 (d2 (d8 (d16 (d16 (d16 r14))))).2.1 (d4 (d8 (d16 (d16 (d16 r14))))).1 (d4 (d8 (d16 (d16 (d16 r14))))).2.1 (d2 (d4 (d8 (d16 (d16 (d16 r14)))))).1 (d2 (d4 (d8 (d16 (d16 (d16 r14)))))).2.1 (d16 (d16 (d16 (d16 r14)))).1 (d16 (d16 (d16 (d16 r14)))).2.1 (d2 (d16 (d16 (d16 (d16 r14))))).1 (d2 (d16 (d16 (d16 (d16 r14))))).2.1 (d4 (d16 (d16 (d16 (d16 r14))))).1 (d4 (d16 (d16 (d16 (d16 r14))))).2.1 (d2 (d4 (d16 (d16 (d16 (d16 r14)))))).1 (d2 (d4 (d16 (d16 (d16 (d16 r14)))))).2.1 (d8 (d16 (d16 (d16 (d16 r14))))).1 (d8 (d16 (d16 (d16 (d16 r14))))).2).bind fun (r90:Bool)=>
 if r90=true then
 (g7).bind fun (r91:Bool)=>
 some (r91)
 else
 some (false)
 else
 (g13 r7 r8.1 r8.2.2.1 r14.1 r14.2.1 r14.2.2.1 r14.2.2.2.1 r14.2.2.2.2.1 r14.2.2.2.2.2.1 r14.2.2.2.2.2.2.1 r14.2.2.2.2.2.2.2.1 r14.2.2.2.2.2.2.2.2.1 r14.2.2.2.2.2.2.2.2.2.1 r14.2.2.2.2.2.2.2.2.2.2.1 r14.2.2.2.2.2.2.2.2.2.2.2.1 (d4 (d8 r14)).1 (d4 (d8 r14)).2.1 (d2 (d4 (d8 r14))).1 (d2 (d4 (d8 r14))).2.1 (d16 r14).1 (d16 r14).2.1 (d2 (d16 r14)).1 (d2 (d16 r14)).2.1 (d4 (d16 r14)).1 (d4 (d16 r14)).2.1 (d2 (d4 (d16 r14))).1 (d2 (d4 (d16 r14))).2.1 (d8 (d16 r14)).1 (d8 (d16 r14)).2.1 (d2 (d8 (d16 r14))).1 (d2 (d8 (d16 r14))).2.1 (d4 (d8 (d16 r14))).1 (d4 (d8 (d16 r14))).2.1 (d2 (d4 (d8 (d16 r14)))).1 (d2 (d4 (d8 (d16 r14)))).2.1 (d16 (d16 r14)).1 (d16 (d16 r14)).2.1 (d2 (d16 (d16 r14))).1 (d2 (d16 (d16 r14))).2.1 (d4 (d16 (d16 r14))).1 (d4 (d16 (d16 r14))).2.1 (d2 (d4 (d16 (d16 r14)))).1 (d2 (d4 (d16 (d16 r14)))).2.1 (d8 (d16 (d16 r14))).1 (d8 (d16 (d16 r14))).2.1 (d2 (d8 (d16 (d16 r14)))).1 (d2 (d8 (d16 (d16 r14)))).2.1 (d4 (d8 (d16 (d16 r14)))).1 (d4 (d8 (d16 (d16 r14)))).2.1 (d2 (d4 (d8 (d16 (d16 r14))))).1 (d2 (d4 (d8 (d16 (d16 r14))))).2.1 (d16 (d16 (d16 r14))).1 (d16 (d16 (d16 r14))).2.1 (d2 (d16 (d16 (d16 r14)))).1 (d2 (d16 (d16 (d16 r14)))).2.1 (d4 (d16 (d16 (d16 r14)))).1 (d4 (d16 (d16 (d16 r14)))).2.1 (d2 (d4 (d16 (d16 (d16 r14))))).1 (d2 (d4 (d16 (d16 (d16 r14))))).2.1 (d8 (d16 (d16 (d16 r14)))).1 (d8 (d16 (d16 (d16 r14)))).2.1 (d2 (d8 (d16 (d16 (d16 r14))))).1 (d2 (d8 (d16 (d16 (d16 r14))))).2.1 (d4 (d8 (d16 (d16 (d16 r14))))).1 (d4 (d8 (d16 (d16 (d16 r14))))).2.1 (d2 (d4 (d8 (d16 (d16 (d16 r14)))))).1 (d2 (d4 (d8 (d16 (d16 (d16 r14)))))).2.1 (d16 (d16 (d16 (d16 r14)))).1 (d16 (d16 (d16 (d16 r14)))).2.1 (d2 (d16 (d16 (d16 (d16 r14))))).1 (d2 (d16 (d16 (d16 (d16 r14))))).2.1 (d4 (d16 (d16 (d16 (d16 r14))))).1 (d4 (d16 (d16 (d16 (d16 r14))))).2.1 (d2 (d4 (d16 (d16 (d16 (d16 r14)))))).1 (d2 (d4 (d16 (d16 (d16 (d16 r14)))))).2.1 (d8 (d16 (d16 (d16 (d16 r14))))).1 (d8 (d16 (d16 (d16 (d16 r14))))).2).bind fun (r89:Bool)=>
 if r89=true then
 (g7).bind fun (r90:Bool)=>
 some (r90)
 else
 some (false)):=by kernel_rfl
noncomputable def F6:Fn:=⟨165,[10],[],[],0,[],[],Tryz.f6,[.c (.int .i64),.c (.slice 1),.c (.slice 10),.c (.int .i64),.c (.int .i64)],[.c (.bool)],[(7,F7.S),(9,F9.S),(8,F8.S),(10,F10.S),(16,F16.S),(15,F15.S),(22,F22.S),(23,F23.S),(20,F20.S),(21,F21.S)]⟩
theorem ok6:F6.S.Ok Tryz.prog 6:=F6.ok Tryz.func6 (by kernel_rfl) ⟨ok7,⟨ok9,⟨ok8,⟨Zzp,⟨Zy9,⟨ZyO,⟨ZAl,⟨Zz1,⟨Zzw,⟨Zwo,trivial⟩⟩⟩⟩⟩⟩⟩⟩⟩⟩
noncomputable def g6 (x0:Int) (x1 x2:LL) (x3 x4:Int):Option (Bool):=F6.S.g [.i x0,.l x1,.l x2,.i x3,.i x4]
theorem ZxZ (x0:Int) (x1 x2:LL) (x3 x4:Int):g6 x0 x1 x2 x3 x4 =
 (if (cop .gtr (List.length x1:Int) 60)=true then
 (g7).bind fun (r5:Bool)=>
 some (r5)
 else
 (g9 x0 4).bind fun (r5:Int)=>
 (g8 x2).bind fun (r6:LL)=>
 (g10 x1 r6 r5).bind fun (r7:Qt19)=>
 (g9 x3 14).bind fun (r13:Int)=>
 (g9 x4 100).bind fun (r14:Int)=>
 (g16 r7.1).bind fun (r15:LL)=>
 (g15 r5 r15 E0 4 0 1 r5 0 0 r13 5 (iop .add .i64 1 r14) 0 0 false 0 0 0 0 0 0 0 0 0 0 0 0 0 0 0 0 0 0 0 0 E0 0 0 0 0 0 0 false E0 (E0++[[AV.val (.int .i64 5),AV.val (.int .i64 (iop .add .i64 1 r14)),AV.val (.int .i64 0),AV.slice false 3 E0,AV.val (.int .i64 4),AV.val (.int .i64 0),AV.val (.int .i64 6),AV.val (.int .i64 7),AV.val (.int .i64 0),AV.val (.int .i64 0),AV.val (.bool false)]]) E0 E0 0 0 E0 E0 E0 E0 E0 E0 E0 E0 0 0 E0 E0 E0 E0 E0 E0 E0 E0 false 0 E0 E0 E0 E0 E0 E0 E0 E0).bind fun (r16:LL×LL×LL×LL)=>
 if (cop .neq (List.length r16.2.2.1:Int) 1)=true then
 some (false)
 else
 if (cop .geq r13 (List.length r7.1:Int))=true then
 Zi r16.2.2.1 0 hs0 fun (r20:Qt2)=>
 if (cop .neq r20.2.2.2.2.2.2.2.2.2.2.1 1)=true then
 Zi r16.2.2.1 0 hs0 fun (r94:Qt2)=>
 if (cop .eql r94.2.2.2.2.2.2.2.2.2.2.1 1)=true then
 (g22 r16.1 r7.1).bind fun (r168:Bool)=>
 if r168=true then
 if ((cop .eql (List.length r16.2.2.2:Int) 1) == (cop .eql 1 3))=true then
 (g7).bind fun (r169:Bool)=>
 some (r169)
 else
 some (false)
 else
 some (false)
 else
 some (false)
 else
 if (cop .neq 1 0)=true then
 Zi r16.2.2.1 0 hs0 fun (r94:Qt2)=>
 if (cop .eql r94.2.2.2.2.2.2.2.2.2.2.1 1)=true then
 (g22 r16.1 r7.1).bind fun (r168:Bool)=>
 if r168=true then
 if ((cop .eql (List.length r16.2.2.2:Int) 1) == (cop .eql 1 3))=true then
 (g7).bind fun (r169:Bool)=>
 some (r169)
 else
 some (false)
 else
 some (false)
 else
 some (false)
 else
 (g16 r16.1).bind fun (r94:LL)=>
 (g15 r5 r94 E0 4 0 1 r5 0 0 r13 5 (iop .add .i64 1 r14) 0 0 false 0 0 0 0 0 0 0 0 0 0 0 0 0 0 0 0 0 0 0 0 E0 0 0 0 0 0 0 false E0 (E0++[[AV.val (.int .i64 5),AV.val (.int .i64 (iop .add .i64 1 r14)),AV.val (.int .i64 0),AV.slice false 3 E0,AV.val (.int .i64 4),AV.val (.int .i64 0),AV.val (.int .i64 6),AV.val (.int .i64 7),AV.val (.int .i64 0),AV.val (.int .i64 0),AV.val (.bool false)]]) E0 E0 0 0 E0 E0 E0 E0 E0 E0 E0 E0 0 0 E0 E0 E0 E0 E0 E0 E0 E0 false 0 E0 E0 E0 E0 E0 E0 E0 E0).bind fun (r95:LL×LL×LL×LL)=>
 if (cop .eql (List.length r16.2.2.2:Int) 1)=true then
 Zi r16.2.2.2 0 [.int .i64,.int .i64,.int .i64,.bool] fun (r99:Int×Int×Int×Bool)=>
 if ((cop .eql r99.1 5)&&((cop .eql r99.2.1 (iop .add .i64 1 r14))&&((cop .eql r99.2.2.1 0)&&((r99.2.2.2 == true)&&true))))=true then
 (g23 r16.1 5 (iop .add .i64 1 r14) 0).bind fun (r103:Int)=>
 if (cop .eql r103 r13)=true then
 if (cop .eql (List.length r95.2.2.1:Int) 1)=true then
 Zi r95.2.2.1 0 hs0 fun (r104:Qt2)=>
 if (cop .eql r104.2.2.2.2.2.2.2.2.2.2.1 3)=true then
 (g22 r16.1 r95.1).bind fun (r178:Bool)=>
 if r178=true then
 (g7).bind fun (r179:Bool)=>
 some (r179)
 else
 some (false)
 else
 some (false)
 else
 some (false)
 else
 some (false)
 else
 some (false)
 else
 some (false)
 else
 Zi r7.1 r13 hs6 fun (r20:Qt11)=>
 (g20 r20.1 r20.2.1 r20.2.2.1 r20.2.2.2.1 r20.2.2.2.2.1 r20.2.2.2.2.2.1 r20.2.2.2.2.2.2.1 r20.2.2.2.2.2.2.2.1 r20.2.2.2.2.2.2.2.2.1 r20.2.2.2.2.2.2.2.2.2.1 r20.2.2.2.2.2.2.2.2.2.2.1 r20.2.2.2.2.2.2.2.2.2.2.2.1 (d4 (d8 r20)).1 (d4 (d8 r20)).2.1 (d2 (d4 (d8 r20)))).bind fun (r35:Bool)=>
 if r35=true then
 Zi r16.2.2.1 0 hs0 fun (r36:Qt2)=>
 if (cop .neq r36.2.2.2.2.2.2.2.2.2.2.1 4)=true then
 Zi r16.2.2.1 0 hs0 fun (r110:Qt2)=>
 if (cop .eql r110.2.2.2.2.2.2.2.2.2.2.1 4)=true then
 (g22 r16.1 r7.1).bind fun (r184:Bool)=>
 if r184=true then
 if ((cop .eql (List.length r16.2.2.2:Int) 1) == (cop .eql 4 3))=true then
 (g7).bind fun (r185:Bool)=>
 some (r185)
 else
 some (false)
 else
 some (false)
 else
 some (false)
 else
 if (cop .neq 4 0)=true then
 Zi r16.2.2.1 0 hs0 fun (r110:Qt2)=>
 if (cop .eql r110.2.2.2.2.2.2.2.2.2.2.1 4)=true then
 (g22 r16.1 r7.1).bind fun (r184:Bool)=>
 if r184=true then
 if ((cop .eql (List.length r16.2.2.2:Int) 1) == (cop .eql 4 3))=true then
 (g7).bind fun (r185:Bool)=>
 some (r185)
 else
 some (false)
 else
 some (false)
 else
 some (false)
 else
 (g16 r16.1).bind fun (r110:LL)=>
 (g15 r5 r110 E0 4 0 1 r5 0 0 r13 5 (iop .add .i64 1 r14) 0 0 false 0 0 0 0 0 0 0 0 0 0 0 0 0 0 0 0 0 0 0 0 E0 0 0 0 0 0 0 false E0 (E0++[[AV.val (.int .i64 5),AV.val (.int .i64 (iop .add .i64 1 r14)),AV.val (.int .i64 0),AV.slice false 3 E0,AV.val (.int .i64 4),AV.val (.int .i64 0),AV.val (.int .i64 6),AV.val (.int .i64 7),AV.val (.int .i64 0),AV.val (.int .i64 0),AV.val (.bool false)]]) E0 E0 0 0 E0 E0 E0 E0 E0 E0 E0 E0 0 0 E0 E0 E0 E0 E0 E0 E0 E0 false 0 E0 E0 E0 E0 E0 E0 E0 E0).bind fun (r111:LL×LL×LL×LL)=>
 if (cop .eql (List.length r16.2.2.2:Int) 1)=true then
 Zi r16.2.2.2 0 [.int .i64,.int .i64,.int .i64,.bool] fun (r115:Int×Int×Int×Bool)=>
 if ((cop .eql r115.1 5)&&((cop .eql r115.2.1 (iop .add .i64 1 r14))&&((cop .eql r115.2.2.1 0)&&((r115.2.2.2 == true)&&true))))=true then
 (g23 r16.1 5 (iop .add .i64 1 r14) 0).bind fun (r119:Int)=>
 if (cop .eql r119 r13)=true then
 if (cop .eql (List.length r111.2.2.1:Int) 1)=true then
 Zi r111.2.2.1 0 hs0 fun (r120:Qt2)=>
 if (cop .eql r120.2.2.2.2.2.2.2.2.2.2.1 3)=true then
 (g22 r16.1 r111.1).bind fun (r194:Bool)=>
 if r194=true then
 (g7).bind fun (r195:Bool)=>
 some (r195)
 else
 some (false)
 else
 some (false)
 else
 some (false)
 else
 some (false)
 else
 some (false)
 else
 some (false)
 else
 Zi r7.1 r13 hs6 fun (r36:Qt11)=>
 (g21 r36.1 r36.2.1 r36.2.2.1 r36.2.2.2.1 r36.2.2.2.2.1 r36.2.2.2.2.2.1 r36.2.2.2.2.2.2.1 r36.2.2.2.2.2.2.2.1 r36.2.2.2.2.2.2.2.2.1 r36.2.2.2.2.2.2.2.2.2.1 r36.2.2.2.2.2.2.2.2.2.2.1 r36.2.2.2.2.2.2.2.2.2.2.2.1 (d4 (d8 r36)).1 (d4 (d8 r36)).2.1 (d2 (d4 (d8 r36)))).bind fun (r51:Bool)=>
 if (!r51)=true then
 Zi r16.2.2.1 0 hs0 fun (r52:Qt2)=>
 if (cop .neq r52.2.2.2.2.2.2.2.2.2.2.1 3)=true then
 Zi r16.2.2.1 0 hs0 fun (r126:Qt2)=>
 if (cop .eql r126.2.2.2.2.2.2.2.2.2.2.1 3)=true then
 (g22 r16.1 r7.1).bind fun (r200:Bool)=>
 if r200=true then
 if ((cop .eql (List.length r16.2.2.2:Int) 1) == (cop .eql 3 3))=true then
 (g7).bind fun (r201:Bool)=>
 some (r201)
 else
 some (false)
 else
 some (false)
 else
 some (false)
 else
 if (cop .neq 3 0)=true then
 Zi r16.2.2.1 0 hs0 fun (r126:Qt2)=>
 if (cop .eql r126.2.2.2.2.2.2.2.2.2.2.1 3)=true then
 (g22 r16.1 r7.1).bind fun (r200:Bool)=>
 if r200=true then
 if ((cop .eql (List.length r16.2.2.2:Int) 1) == (cop .eql 3 3))=true then
 (g7).bind fun (r201:Bool)=>
 some (r201)
 else
 some (false)
 else
 some (false)
 else
 some (false)
 else
 (g16 r16.1).bind fun (r126:LL)=>
 (g15 r5 r126 E0 4 0 1 r5 0 0 r13 5 (iop .add .i64 1 r14) 0 0 false 0 0 0 0 0 0 0 0 0 0 0 0 0 0 0 0 0 0 0 0 E0 0 0 0 0 0 0 false E0 (E0++[[AV.val (.int .i64 5),AV.val (.int .i64 (iop .add .i64 1 r14)),AV.val (.int .i64 0),AV.slice false 3 E0,AV.val (.int .i64 4),AV.val (.int .i64 0),AV.val (.int .i64 6),AV.val (.int .i64 7),AV.val (.int .i64 0),AV.val (.int .i64 0),AV.val (.bool false)]]) E0 E0 0 0 E0 E0 E0 E0 E0 E0 E0 E0 0 0 E0 E0 E0 E0 E0 E0 E0 E0 false 0 E0 E0 E0 E0 E0 E0 E0 E0).bind fun (r127:LL×LL×LL×LL)=>
 if (cop .eql (List.length r16.2.2.2:Int) 1)=true then
 Zi r16.2.2.2 0 [.int .i64,.int .i64,.int .i64,.bool] fun (r131:Int×Int×Int×Bool)=>
 if ((cop .eql r131.1 5)&&((cop .eql r131.2.1 (iop .add .i64 1 r14))&&((cop .eql r131.2.2.1 0)&&((r131.2.2.2 == true)&&true))))=true then
 (g23 r16.1 5 (iop .add .i64 1 r14) 0).bind fun (r135:Int)=>
 if (cop .eql r135 r13)=true then
 if (cop .eql (List.length r127.2.2.1:Int) 1)=true then
 Zi r127.2.2.1 0 hs0 fun (r136:Qt2)=>
 if (cop .eql r136.2.2.2.2.2.2.2.2.2.2.1 3)=true then
 (g22 r16.1 r127.1).bind fun (r210:Bool)=>
 if r210=true then
 (g7).bind fun (r211:Bool)=>
 some (r211)
 else
 some (false)
 else
 some (false)
 else
 some (false)
 else
 some (false)
 else
 some (false)
 else
 some (false)
 else
 Zi r16.2.2.1 0 hs0 fun (r52:Qt2)=>
 if (cop .neq r52.2.2.2.2.2.2.2.2.2.2.1 0)=true then
 Zi r16.2.2.1 0 hs0 fun (r126:Qt2)=>
 if (cop .eql r126.2.2.2.2.2.2.2.2.2.2.1 0)=true then
 (g22 r16.1 r7.1).bind fun (r200:Bool)=>
 if r200=true then
 if ((cop .eql (List.length r16.2.2.2:Int) 1) == (cop .eql 0 3))=true then
 (g7).bind fun (r201:Bool)=>
 some (r201)
 else
 some (false)
 else
 some (false)
 else
 some (false)
 else
 if (cop .neq 0 0)=true then
 Zi r16.2.2.1 0 hs0 fun (r126:Qt2)=>
 if (cop .eql r126.2.2.2.2.2.2.2.2.2.2.1 0)=true then
 (g22 r16.1 r7.1).bind fun (r200:Bool)=>
 if r200=true then
 if ((cop .eql (List.length r16.2.2.2:Int) 1) == (cop .eql 0 3))=true then
 (g7).bind fun (r201:Bool)=>
 some (r201)
 else
 some (false)
 else
 some (false)
 else
 some (false)
 else
 (g16 r16.1).bind fun (r126:LL)=>
 (g15 r5 r126 E0 4 0 1 r5 0 0 r13 5 (iop .add .i64 1 r14) 0 0 false 0 0 0 0 0 0 0 0 0 0 0 0 0 0 0 0 0 0 0 0 E0 0 0 0 0 0 0 false E0 (E0++[[AV.val (.int .i64 5),AV.val (.int .i64 (iop .add .i64 1 r14)),AV.val (.int .i64 0),AV.slice false 3 E0,AV.val (.int .i64 4),AV.val (.int .i64 0),AV.val (.int .i64 6),AV.val (.int .i64 7),AV.val (.int .i64 0),AV.val (.int .i64 0),AV.val (.bool false)]]) E0 E0 0 0 E0 E0 E0 E0 E0 E0 E0 E0 0 0 E0 E0 E0 E0 E0 E0 E0 E0 false 0 E0 E0 E0 E0 E0 E0 E0 E0).bind fun (r127:LL×LL×LL×LL)=>
 if (cop .eql (List.length r16.2.2.2:Int) 1)=true then
 Zi r16.2.2.2 0 [.int .i64,.int .i64,.int .i64,.bool] fun (r131:Int×Int×Int×Bool)=>
 if ((cop .eql r131.1 5)&&((cop .eql r131.2.1 (iop .add .i64 1 r14))&&((cop .eql r131.2.2.1 0)&&((r131.2.2.2 == true)&&true))))=true then
 (g23 r16.1 5 (iop .add .i64 1 r14) 0).bind fun (r135:Int)=>
 if (cop .eql r135 r13)=true then
 if (cop .eql (List.length r127.2.2.1:Int) 1)=true then
 Zi r127.2.2.1 0 hs0 fun (r136:Qt2)=>
 if (cop .eql r136.2.2.2.2.2.2.2.2.2.2.1 3)=true then
 (g22 r16.1 r127.1).bind fun (r210:Bool)=>
 if r210=true then
 (g7).bind fun (r211:Bool)=>
 some (r211)
 else
 some (false)
 else
 some (false)
 else
 some (false)
 else
 some (false)
 else
 some (false)
 else
 some (false)):=by kernel_rfl
noncomputable def F5:Fn:=⟨243,[6],[(14,[(9,.c (.slice 15)),(10,.c (.slice 3)),(12,.c (.slice 15)),(16,.c (.slice 15)),(20,.c (.slice 15)),(24,.c (.int .i64))])],[],0,[],[(6,[(9,0)])],Tryz.f5,[.c (.int .i64),.c (.slice 10),.c (.slice 1)],[.c (.bool)],[(8,F8.S),(9,F9.S),(14,F14.S),(12,F12.S),(16,F16.S),(17,F17.S),(15,F15.S),(18,F18.S),(19,F19.S),(20,F20.S),(21,F21.S),(7,F7.S)]⟩
noncomputable def g5 (x0:Int) (x1 x2:LL):Option (Bool):=F5.S.g [.i x0,.l x1,.l x2]
end Go.Proofs.YtljejgmcgddppaaGreat
