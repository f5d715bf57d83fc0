/- Requests as arguments. -/
import Derived.Test.YthdihcchfjlgkaaGreatM6
namespace Go.Proofs.YthdihcchfjlgkaaGreat
open Go Go.AM
set_option linter.unusedSimpArgs false
set_option linter.unusedVariables false
set_option maxRecDepth 100000
theorem ZnE {d:Nat} {cs:List AV} (h:TyR Tryz.prog (d+1) 3 cs):∃ z,cs = [I z]∧z < 2 ^ 63:=by
 simp only [TyR,Tryz.underlying3] at h
 obtain ⟨z,h,hw⟩:=h
 refine ⟨z,h,?_⟩
 have h1:IntKind.min .i64 = -9223372036854775808:=by decide
 have h2:IntKind.max .i64=9223372036854775807:=by decide
 simp [Lit.wf,h1,h2] at hw
 omega
theorem ZlT {d:Nat} {cs:List AV} (h:TyR Tryz.prog (d+2) 28 cs):∃ c:Call,cs=Ztc c∧c.dest < 2 ^ 63:=by
 rw [TyR] at h
 simp only [Tryz.underlying28] at h
 obtain ⟨ps,rfl,hl,hp⟩:=h
 obtain ⟨p0,p1,p2,p3,p4,p5,p6,p7,p8,p9,p10,p11,rfl⟩:∃ p0 p1 p2 p3 p4 p5 p6 p7 p8 p9 p10 p11,ps = [p0,p1,p2,p3,p4,p5,p6,p7,p8,p9,p10,p11]:=by
  match ps,hl with
  | [p0, p1, p2, p3, p4, p5, p6, p7, p8, p9, p10, p11], _ => exact ⟨p0, p1, p2, p3, p4, p5, p6, p7, p8, p9, p10, p11, rfl⟩
 obtain ⟨z0,rfl⟩:=ZD (hp 0 _ _ rfl rfl)
 obtain ⟨z1,rfl⟩:=ZD (hp 1 _ _ rfl rfl)
 obtain ⟨z2,rfl,hz⟩:=ZnE (hp 2 _ _ rfl rfl)
 obtain ⟨z3,rfl⟩:=ZD (hp 3 _ _ rfl rfl)
 obtain ⟨z4,rfl⟩:=ZD (hp 4 _ _ rfl rfl)
 obtain ⟨z5,rfl⟩:=ZD (hp 5 _ _ rfl rfl)
 obtain ⟨z6,rfl⟩:=ZD (hp 6 _ _ rfl rfl)
 obtain ⟨z7,rfl⟩:=ZD (hp 7 _ _ rfl rfl)
 obtain ⟨z8,rfl⟩:=ZD (hp 8 _ _ rfl rfl)
 obtain ⟨z9,rfl⟩:=ZD (hp 9 _ _ rfl rfl)
 obtain ⟨z10,rfl⟩:=ZD (hp 10 _ _ rfl rfl)
 obtain ⟨z11,rfl⟩:=ZD (hp 11 _ _ rfl rfl)
 exact ⟨⟨z0,z1,z2,z3,z4,z5,z6,z7,z8,z9,z10,z11⟩,rfl,hz⟩
theorem Zpc {d:Nat} {cs:List AV} (h:TyR Tryz.prog (d+5) 35 cs):∃ r:Req,cs=Zt r∧(r.src.path.length < 2 ^ 63∧r.call.dest < 2 ^ 63):=by
 rw [TyR] at h
 simp only [Tryz.underlying35] at h
 obtain ⟨ps,rfl,hl,hp⟩:=h
 obtain ⟨p0,p1,p2,p3,p4,rfl⟩:∃ p0 p1 p2 p3 p4,ps = [p0,p1,p2,p3,p4]:=by
  match ps,hl with
  | [p0, p1, p2, p3, p4], _ => exact ⟨p0, p1, p2, p3, p4, rfl⟩
 obtain ⟨i,rfl⟩:=Zif (hp 0 _ _ rfl rfl)
 obtain ⟨c,rfl,hc⟩:=ZlT (hp 1 _ _ rfl rfl)
 obtain ⟨a,rfl⟩:=ZD (hp 2 _ _ rfl rfl)
 obtain ⟨b,rfl⟩:=ZD (hp 3 _ _ rfl rfl)
 obtain ⟨n,rfl,hn⟩:=Zcu (hp 4 _ _ rfl rfl)
 exact ⟨⟨i,c,a,b,n⟩,rfl,hn,hc⟩
theorem Zno {d:Nat} {cs:List AV} (h:TyR Tryz.prog (d+6) 23 cs):∃ l:List Req,cs = [.slice false 28 (l.map Zt)]∧l.length < 2 ^ 63∧∀ x∈l,(x.src.path.length < 2 ^ 63∧x.call.dest < 2 ^ 63):=by
 rw [TyR] at h
 simp only [Tryz.underlying23,ZmO] at h
 obtain ⟨xs,h1,h2,h3⟩:=h
 obtain ⟨l,rfl,h5⟩:=JL (f:=Zt) (p:=fun x=>x.src.path.length < 2 ^ 63∧x.call.dest < 2 ^ 63) xs fun y hy=>Zpc (h3 y hy)
 exact ⟨l,h1,Zit (by simpa using h2),h5⟩
theorem Zo0 {x:AV} (h:VH Tryz.prog 12 23 x):∃ l:List Req,x = .slice false 28 (l.map Zt)∧l.length < 2 ^ 63∧∀ r∈l,(r.src.path.length < 2 ^ 63∧r.call.dest < 2 ^ 63):=by
 simp only [VH,Tryz.underlying23] at h
 obtain ⟨l,h1,h2,h3⟩:=Zno h.2
 exact ⟨l,by simpa using h1,h2,h3⟩
theorem s3' (core:Int) (l:List Jh) (hl:l.length < 2 ^ 63) (hlp:∀ s∈l,s.node.path.length < 2 ^ 63) (p:List Req) (hn:p.length < 2 ^ 63) (hp:∀ r∈p,(r.src.path.length < 2 ^ 63∧r.call.dest < 2 ^ 63)) (m:Msg) (hm:m.Fits) (z:List Int) (sts:List ZpC) (hs:sts.length < 2 ^ 63) (kind:Int):g3 core (l.map Zf) (p.map Zt) m.kind m.view m.frm m.to m.round m.region m.slot m.op.core m.op.op m.op.part m.err m.settled m.req.id.core m.req.id.op m.req.id.part m.req.call.kind m.req.call.slot m.req.call.dest m.req.call.core m.req.call.mask m.req.call.object m.req.call.bits m.req.call.level m.req.call.offset m.req.call.count m.req.call.index m.req.call.addr m.req.region m.req.width m.req.src.id.core m.req.src.id.op m.req.src.id.part (Zb m.req.src.path) m.req.src.cap.kind m.req.src.cap.base m.req.src.cap.bits m.req.src.cap.rights m.req.src.cap.width m.req.src.cap.level m.req.src.cap.device (Zb m.ids) (m.nodes.map ZP) (Za m.cores) (m.moves.map Z4) m.base m.next.number (Za m.next.members) (Za m.next.owners) (m.state.slots.map Zf) (m.state.pending.map Zt) (m.state.marks.map Zj) (m.state.answers.map ZF) (m.state.entries.map Zd) (Zb m.state.commits) m.report.core m.report.view.number (Za m.report.view.members) (Za m.report.view.owners) (m.report.state.slots.map Zf) (m.report.state.pending.map Zt) (m.report.state.marks.map Zj) (m.report.state.answers.map ZF) (m.report.state.entries.map Zd) (Zb m.report.state.commits) m.report.ready m.report.next.number (Za m.report.next.members) (Za m.report.next.owners) (m.report.proposal.slots.map Zf) (m.report.proposal.pending.map Zt) (m.report.proposal.marks.map Zj) (m.report.proposal.answers.map ZF) (m.report.proposal.entries.map Zd) (Zb m.report.proposal.commits) (Za z) (sts.map Zao) kind=some true:=
 s3 core l hl hlp p hn (fun r hr=>(hp r hr).1) (fun r hr=>(hp r hr).2) m hm z sts hs kind
end Go.Proofs.YthdihcchfjlgkaaGreat
