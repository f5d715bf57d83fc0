/- W8E18n, W8E18o, W8X18e, W8E18p, W8E18q, W8D11g, W8D12f, W8D12h, W8D12i, W8D12j, W8D12k, W8D12l, W8D12m, W8p, W8q, W8s, W8a: texts of the proof, put together. -/
import Derived.Test.YtjldbnbdcmfbmaaGreatM6
import Derived.Test.YtjldbnbdcmfbmaaGreatM4
import Derived.Test.YtjldbnbdcmfbmaaGreatF8f

section
namespace Go.Proofs.YtjldbnbdcmfbmaaGreat
open Go Go.AM
set_option linter.unusedSimpArgs false
set_option linter.unusedVariables false
set_option maxRecDepth 100000
structure Msg.Good (m:Msg):Prop where
 kind:N63 m.kind
 view:N63 m.view
 frm:N63 m.frm
 to:N63 m.to
 round:N63 m.round
 region:N63 m.region
 slot:N63 m.slot
 op:m.op.Small
 err:N63 m.err
 req:m.req.Good
 idsn:m.ids.length≤2097152
 ids:∀ x∈m.ids,x.Small
 nodesn:m.nodes.length≤2097152
 nodes:∀ x∈m.nodes,x.path.length < 2^63
 coresn:m.cores.length≤2097152
 cores:∀ x∈m.cores,0≤x∧x < 2^63
 movesn:m.moves.length≤2097152
 moves:∀ x∈m.moves,(0≤x.region∧x.region < 2^63)∧0≤x.to∧x.to < 2^63
 base:N63 m.base
 next:m.next.Good
 state:m.state.Good
 report:m.report.Good
def Z5 (m:Msg):Nat→List Int
 | 0 => nB m.region
 | 1 => ZfL m.req
 | 2 => idB m.op
 | 3 => nB m.err
 | 4 => bB m.settled
 | 5 => Zw WK m.nodes
 | 6 => nB m.slot
 | 7 => Zw idB m.ids
 | 8 => nB m.round
 | 9 => Zw nB m.cores
 | 10 => Zpm m.report
 | 11 => nB m.base
 | 12 => ZcA m.next
 | 13 => Wi m.state
 | 14 => Zw ZfT m.moves
 | _ => []
theorem ZnM (m:Msg) (h:m.Good) (f:Nat):(Z5 m f).length≤7000000000:=by
 have b5:=J6 WK 411 _ m.nodes (fun x _=>Vc x) h.nodesn
 have b7:=J6 idB 33 _ m.ids (fun x _=>Y4 x) h.idsn
 have b9:=J6 nB 11 _ m.cores (fun x _=>ZN x) h.coresn
 have b14:=J6 ZfT 22 _ m.moves (fun x _=>Zf6 x) h.movesn
 have b10:=ZoL _ h.report
 have b12:=Ve _ h.next
 have b13:=Vr _ h.state
 have b1:=Zc8 m.req
 have b2:=Y4 m.op
 have b4:=Zm7 m.settled
 have b0:=ZN m.region
 have b3:=ZN m.err
 have b6:=ZN m.slot
 have b8:=ZN m.round
 have b11:=ZN m.base
 unfold Z5
 split<;>first | omega | simp
theorem s39 (m:Msg) (h:m.Good) (l:List Int) (hl:l.length≤50000000000):∀ f:Nat,f < 15→g39 (Zc l) m.kind m.view m.frm m.to m.round m.region m.slot m.op.core m.op.op m.op.part m.err m.settled m.req.id.core m.req.id.op m.req.id.part m.req.call.kind m.req.call.slot m.req.call.dest m.req.call.core m.req.call.mask m.req.call.object m.req.call.bits m.req.call.level m.req.call.offset m.req.call.count m.req.call.index m.req.call.addr m.req.region m.req.width m.req.src.id.core m.req.src.id.op m.req.src.id.part (Zb m.req.src.path) m.req.src.cap.kind m.req.src.cap.base m.req.src.cap.bits m.req.src.cap.rights m.req.src.cap.width m.req.src.cap.level m.req.src.cap.device (Zb m.ids) (m.nodes.map ZY) (Za m.cores) (m.moves.map ZU) m.base m.next.number (Za m.next.members) (Za m.next.owners) (m.state.slots.map Zg) (m.state.pending.map Zv) (m.state.marks.map Zh) (m.state.answers.map Zx) (m.state.entries.map Ze) (Zb m.state.commits) m.report.core m.report.view.number (Za m.report.view.members) (Za m.report.view.owners) (m.report.state.slots.map Zg) (m.report.state.pending.map Zv) (m.report.state.marks.map Zh) (m.report.state.answers.map Zx) (m.report.state.entries.map Ze) (Zb m.report.state.commits) m.report.ready m.report.next.number (Za m.report.next.members) (Za m.report.next.owners) (m.report.proposal.slots.map Zg) (m.report.proposal.pending.map Zv) (m.report.proposal.marks.map Zh) (m.report.proposal.answers.map Zx) (m.report.proposal.entries.map Ze) (Zb m.report.proposal.commits) (f:Int)=some (Zc (l++Z5 m f))
 | 0, _ => (KW ..).trans (congrArg (fun x => Option.bind x some) (s38 l (by omega) h.region.1 h.region.2))
 | 1, _ => (KW ..).trans (congrArg (fun x => Option.bind x some) (ZDm l (by omega) _ h.req))
 | 2, _ => (KW ..).trans (congrArg (fun x => Option.bind x some) (ZxE l (by omega) h.op))
 | 3, _ => (KW ..).trans (congrArg (fun x => Option.bind x some) (s38 l (by omega) h.err.1 h.err.2))
 | 4, _ => (KW ..).trans (congrArg (fun x => Option.bind x some) (ZC8 l (by omega) _))
 | 5, _ => (KW ..).trans (congrArg (fun x => Option.bind x some) (ZEb l _ (by have := h.nodesn; omega) (by have := h.nodesn; omega) h.nodes))
 | 6, _ => (KW ..).trans (congrArg (fun x => Option.bind x some) (s38 l (by omega) h.slot.1 h.slot.2))
 | 7, _ => (KW ..).trans (congrArg (fun x => Option.bind x some) (ZCO l _ (by have := h.idsn; omega) (by have := h.idsn; omega) h.ids))
 | 8, _ => (KW ..).trans (congrArg (fun x => Option.bind x some) (s38 l (by omega) h.round.1 h.round.2))
 | 9, _ => (KW ..).trans (congrArg (fun x => Option.bind x some) (Zz5 l _ (by have := h.coresn; omega) (by have := h.coresn; omega) h.cores))
 | 10, _ => (KW ..).trans (congrArg (fun x => Option.bind x some) (ZEg l hl _ h.report))
 | 11, _ => (KW ..).trans (congrArg (fun x => Option.bind x some) (s38 l (by omega) h.base.1 h.base.2))
 | 12, _ => (KW ..).trans (congrArg (fun x => Option.bind x some) (ZCx l (by omega) _ h.next))
 | 13, _ => (KW ..).trans (congrArg (fun x => Option.bind x some) (Zzu l (by omega) _ h.state))
 | 14, _ => (KW ..).trans (congrArg (fun x => Option.bind x some) (ZE0 l _ (by have := h.movesn; omega) (by have := h.movesn; omega) h.moves))
def Yl (m:Msg):List Int:=nB m.kind++(nB m.view++(nB m.frm++nB m.to))
def ZuG (m:Msg):List Int:=Yl m++((kf m.kind.toNat).map (Z5 m)).flatten
theorem ZuW (n:Nat):(kf n).length≤5:=by unfold kf;split<;>simp
theorem ZD8 (m:Msg) (h:m.Good) (L:List Nat) (hL:∀ f∈L,f < 15) (hn:L.length≤5) (acc:List Int) (ha:acc.length≤10000000000) :
  ZmB Zr m.kind m.view m.frm m.to m.round m.region m.slot m.op.core m.op.op m.op.part m.err m.settled m.req.id.core m.req.id.op m.req.id.part m.req.call.kind m.req.call.slot m.req.call.dest m.req.call.core m.req.call.mask m.req.call.object m.req.call.bits m.req.call.level m.req.call.offset m.req.call.count m.req.call.index m.req.call.addr m.req.region m.req.width m.req.src.id.core m.req.src.id.op m.req.src.id.part (Zb m.req.src.path) m.req.src.cap.kind m.req.src.cap.base m.req.src.cap.bits m.req.src.cap.rights m.req.src.cap.width m.req.src.cap.level m.req.src.cap.device (Zb m.ids) (m.nodes.map ZY) (Za m.cores) (m.moves.map ZU) m.base m.next.number (Za m.next.members) (Za m.next.owners) (m.state.slots.map Zg) (m.state.pending.map Zv) (m.state.marks.map Zh) (m.state.answers.map Zx) (m.state.entries.map Ze) (Zb m.state.commits) m.report.core m.report.view.number (Za m.report.view.members) (Za m.report.view.owners) (m.report.state.slots.map Zg) (m.report.state.pending.map Zv) (m.report.state.marks.map Zh) (m.report.state.answers.map Zx) (m.report.state.entries.map Ze) (Zb m.report.state.commits) m.report.ready m.report.next.number (Za m.report.next.members) (Za m.report.next.owners) (m.report.proposal.slots.map Zg) (m.report.proposal.pending.map Zv) (m.report.proposal.marks.map Zh) (m.report.proposal.answers.map Zx) (m.report.proposal.entries.map Ze) (Zb m.report.proposal.commits) (fc L) (L.length:Int) 0 (Zc acc)=some (Zc (acc++(L.map (Z5 m)).flatten),0):=by
 refine J2 (F:=fun k a i=>ZmB k m.kind m.view m.frm m.to m.round m.region m.slot m.op.core m.op.op m.op.part m.err m.settled m.req.id.core m.req.id.op m.req.id.part m.req.call.kind m.req.call.slot m.req.call.dest m.req.call.core m.req.call.mask m.req.call.object m.req.call.bits m.req.call.level m.req.call.offset m.req.call.count m.req.call.index m.req.call.addr m.req.region m.req.width m.req.src.id.core m.req.src.id.op m.req.src.id.part (Zb m.req.src.path) m.req.src.cap.kind m.req.src.cap.base m.req.src.cap.bits m.req.src.cap.rights m.req.src.cap.width m.req.src.cap.level m.req.src.cap.device (Zb m.ids) (m.nodes.map ZY) (Za m.cores) (m.moves.map ZU) m.base m.next.number (Za m.next.members) (Za m.next.owners) (m.state.slots.map Zg) (m.state.pending.map Zv) (m.state.marks.map Zh) (m.state.answers.map Zx) (m.state.entries.map Ze) (Zb m.state.commits) m.report.core m.report.view.number (Za m.report.view.members) (Za m.report.view.owners) (m.report.state.slots.map Zg) (m.report.state.pending.map Zv) (m.report.state.marks.map Zh) (m.report.state.answers.map Zx) (m.report.state.entries.map Ze) (Zb m.report.state.commits) m.report.ready m.report.next.number (Za m.report.next.members) (Za m.report.next.owners) (m.report.proposal.slots.map Zg) (m.report.proposal.pending.map Zv) (m.report.proposal.marks.map Zh) (m.report.proposal.answers.map Zx) (m.report.proposal.entries.map Ze) (Zb m.report.proposal.commits) (fc L) (L.length:Int) i a) (l:=L) (Z5 m) (fun acc=>some (Zc acc,0)) 7000000000 50000000000 (by omega) (fun x _=>ZnM m h x) (fun k i acc hi ha=>?_) (fun k i acc hi ha=>?_) acc (by omega)
 ·refine (Zkg ..).trans ?_
  rw [if_pos (ZQ hi)]
  refine (ZmF hi _).trans ?_
  rw [s39 m h acc ha _ (hL _ (List.getElem_mem hi)),Option.bind_some,ZP hi (by omega)]
 ·refine (Zkg ..).trans ?_
  rw [if_neg (ZR hi)]
theorem s14 (m:Msg) (hf:m.Fits) (h:Jn m=true→m.Good):g14 m.kind m.view m.frm m.to m.round m.region m.slot m.op.core m.op.op m.op.part m.err m.settled m.req.id.core m.req.id.op m.req.id.part m.req.call.kind m.req.call.slot m.req.call.dest m.req.call.core m.req.call.mask m.req.call.object m.req.call.bits m.req.call.level m.req.call.offset m.req.call.count m.req.call.index m.req.call.addr m.req.region m.req.width m.req.src.id.core m.req.src.id.op m.req.src.id.part (Zb m.req.src.path) m.req.src.cap.kind m.req.src.cap.base m.req.src.cap.bits m.req.src.cap.rights m.req.src.cap.width m.req.src.cap.level m.req.src.cap.device (Zb m.ids) (m.nodes.map ZY) (Za m.cores) (m.moves.map ZU) m.base m.next.number (Za m.next.members) (Za m.next.owners) (m.state.slots.map Zg) (m.state.pending.map Zv) (m.state.marks.map Zh) (m.state.answers.map Zx) (m.state.entries.map Ze) (Zb m.state.commits) m.report.core m.report.view.number (Za m.report.view.members) (Za m.report.view.owners) (m.report.state.slots.map Zg) (m.report.state.pending.map Zv) (m.report.state.marks.map Zh) (m.report.state.answers.map Zx) (m.report.state.entries.map Ze) (Zb m.report.state.commits) m.report.ready m.report.next.number (Za m.report.next.members) (Za m.report.next.owners) (m.report.proposal.slots.map Zg) (m.report.proposal.pending.map Zv) (m.report.proposal.marks.map Zh) (m.report.proposal.answers.map Zx) (m.report.proposal.entries.map Ze) (Zb m.report.proposal.commits)=some (if Jn m=true then (Zc (ZuG m),0) else (E0,1)):=by
 rw [Zxy,s12 m hf,Option.bind_some]
 cases hv:Jn m with
 | false => rfl
 | true =>
  have hg:=h hv
  rw [if_neg (by simp),if_pos rfl]
  have hk:1≤m.kind∧m.kind≤17:=by
   unfold Jn headOk kindOk at hv
   simp only [Bool.and_eq_true,decide_eq_true_eq] at hv
   exact hv.1.1.1.1
  obtain ⟨n,hn⟩:∃ n:Nat,m.kind=n:=⟨m.kind.toNat,by omega⟩
  have e19:g32 m.kind=some (fc (kf n),true):=by rw [hn];exact s32 n (by omega) (by omega)
  have hk2:m.kind.toNat=n:=by omega
  have hlen:(fc (kf n)).length=(kf n).length:=List.length_map _
  have e:=J2 (F:=fun k a i=>Zo1 k m.kind m.view m.frm m.to m.round m.region m.slot m.op.core m.op.op m.op.part m.err m.settled m.req.id.core m.req.id.op m.req.id.part m.req.call.kind m.req.call.slot m.req.call.dest m.req.call.core m.req.call.mask m.req.call.object m.req.call.bits m.req.call.level m.req.call.offset m.req.call.count m.req.call.index m.req.call.addr m.req.region m.req.width m.req.src.id.core m.req.src.id.op m.req.src.id.part (Zb m.req.src.path) m.req.src.cap.kind m.req.src.cap.base m.req.src.cap.bits m.req.src.cap.rights m.req.src.cap.width m.req.src.cap.level m.req.src.cap.device (Zb m.ids) (m.nodes.map ZY) (Za m.cores) (m.moves.map ZU) m.base m.next.number (Za m.next.members) (Za m.next.owners) (m.state.slots.map Zg) (m.state.pending.map Zv) (m.state.marks.map Zh) (m.state.answers.map Zx) (m.state.entries.map Ze) (Zb m.state.commits) m.report.core m.report.view.number (Za m.report.view.members) (Za m.report.view.owners) (m.report.state.slots.map Zg) (m.report.state.pending.map Zv) (m.report.state.marks.map Zh) (m.report.state.answers.map Zx) (m.report.state.entries.map Ze) (Zb m.report.state.commits) m.report.ready m.report.next.number (Za m.report.next.members) (Za m.report.next.owners) (m.report.proposal.slots.map Zg) (m.report.proposal.pending.map Zv) (m.report.proposal.marks.map Zh) (m.report.proposal.answers.map Zx) (m.report.proposal.entries.map Ze) (Zb m.report.proposal.commits) (Za [m.kind,m.view,m.frm,m.to]) (([m.kind,m.view,m.frm,m.to] : List Int).length:Int) i a) (l:=[m.kind,m.view,m.frm,m.to]) nB (fun acc=>some (Zc (acc++((kf n).map (Z5 m)).flatten),0)) 11 1000 (by simp) (fun x _=>ZN x)
   (fun k i acc hi ha=>by
    refine (Zkk ..).trans ?_
    have hz:N63 ([m.kind,m.view,m.frm,m.to] : List Int)[i]:=by
     have:=List.getElem_mem hi
     simp only [List.mem_cons,List.not_mem_nil,or_false] at this
     rcases this with e | e | e | e
     ·rw [e];exact hg.kind
     ·rw [e];exact hg.view
     ·rw [e];exact hg.frm
     ·rw [e];exact hg.to
    rw [if_pos (ZQ hi)]
    refine (ZF hi _).trans ?_
    rw [s38 acc (by omega) hz.1 hz.2,Option.bind_some,ZP hi (by simp)])
   (fun k i acc hi ha=>by
    refine (Zkk ..).trans ?_
    rw [if_neg (ZR hi),e19,Option.bind_some]
    dsimp only
    rw [hlen,ZD8 m hg (kf n) (Zxe n) (ZuW n) acc (by omega)])
   [] (by simp)
  refine Eq.trans e ?_
  simp only [ZuG,Yl,hk2,List.map_cons,List.map_nil,List.flatten_cons,List.flatten_nil,List.nil_append,List.append_nil,List.append_assoc]
theorem l15 (m:Msg) (h:m.Good) (acc:List Int) (ha:acc.length≤10000000000):YZ Zr m.kind m.view m.frm m.to m.round m.region m.slot m.op.core m.op.op m.op.part m.err m.settled m.req.id.core m.req.id.op m.req.id.part m.req.call.kind m.req.call.slot m.req.call.dest m.req.call.core m.req.call.mask m.req.call.object m.req.call.bits m.req.call.level m.req.call.offset m.req.call.count m.req.call.index m.req.call.addr m.req.region m.req.width m.req.src.id.core m.req.src.id.op m.req.src.id.part (Zb m.req.src.path) m.req.src.cap.kind m.req.src.cap.base m.req.src.cap.bits m.req.src.cap.rights m.req.src.cap.width m.req.src.cap.level m.req.src.cap.device (Zb m.ids) (m.nodes.map ZY) (Za m.cores) (m.moves.map ZU) m.base m.next.number (Za m.next.members) (Za m.next.owners) (m.state.slots.map Zg) (m.state.pending.map Zv) (m.state.marks.map Zh) (m.state.answers.map Zx) (m.state.entries.map Ze) (Zb m.state.commits) m.report.core m.report.view.number (Za m.report.view.members) (Za m.report.view.owners) (m.report.state.slots.map Zg) (m.report.state.pending.map Zv) (m.report.state.marks.map Zh) (m.report.state.answers.map Zx) (m.report.state.entries.map Ze) (Zb m.report.state.commits) m.report.ready m.report.next.number (Za m.report.next.members) (Za m.report.next.owners) (m.report.proposal.slots.map Zg) (m.report.proposal.pending.map Zv) (m.report.proposal.marks.map Zh) (m.report.proposal.answers.map Zx) (m.report.proposal.entries.map Ze) (Zb m.report.proposal.commits) (Zc acc) 0=some (Zc (acc++(m.nodes.map WK).flatten),0):=by
 have hn:=h.nodesn
 have hn':m.nodes.length < 2^63:=by omega
 refine J2 (F:=fun k a i=>YZ k m.kind m.view m.frm m.to m.round m.region m.slot m.op.core m.op.op m.op.part m.err m.settled m.req.id.core m.req.id.op m.req.id.part m.req.call.kind m.req.call.slot m.req.call.dest m.req.call.core m.req.call.mask m.req.call.object m.req.call.bits m.req.call.level m.req.call.offset m.req.call.count m.req.call.index m.req.call.addr m.req.region m.req.width m.req.src.id.core m.req.src.id.op m.req.src.id.part (Zb m.req.src.path) m.req.src.cap.kind m.req.src.cap.base m.req.src.cap.bits m.req.src.cap.rights m.req.src.cap.width m.req.src.cap.level m.req.src.cap.device (Zb m.ids) (m.nodes.map ZY) (Za m.cores) (m.moves.map ZU) m.base m.next.number (Za m.next.members) (Za m.next.owners) (m.state.slots.map Zg) (m.state.pending.map Zv) (m.state.marks.map Zh) (m.state.answers.map Zx) (m.state.entries.map Ze) (Zb m.state.commits) m.report.core m.report.view.number (Za m.report.view.members) (Za m.report.view.owners) (m.report.state.slots.map Zg) (m.report.state.pending.map Zv) (m.report.state.marks.map Zh) (m.report.state.answers.map Zx) (m.report.state.entries.map Ze) (Zb m.report.state.commits) m.report.ready m.report.next.number (Za m.report.next.members) (Za m.report.next.owners) (m.report.proposal.slots.map Zg) (m.report.proposal.pending.map Zv) (m.report.proposal.marks.map Zh) (m.report.proposal.answers.map Zx) (m.report.proposal.entries.map Ze) (Zb m.report.proposal.commits) a i) (l:=m.nodes) WK (fun acc=>some (Zc acc,0)) 411 50000000000 hn' (fun x _=>Vc x) (fun k i acc hi ha=>?_) (fun k i acc hi ha=>?_) acc (by omega)
 ·refine (ZkJ ..).trans ?_
  rw [List.length_map,if_pos (ZQ hi)]
  refine (Ys hi _).trans ?_
  simp only [ZgY,d2,d4,d8,d16]
  rw [s49 acc (by omega) _ (h.nodes _ (List.getElem_mem hi)),Option.bind_some,ZP hi hn']
 ·refine (ZkJ ..).trans ?_
  rw [List.length_map,if_neg (ZR hi)]
theorem ZEd (m:Msg) (hk:m.kind=17) (h:m.Good) (acc:List Int) (ha:acc.length≤10000000000):Zoc Zr m.kind m.view m.frm m.to m.round m.region m.slot m.op.core m.op.op m.op.part m.err m.settled m.req.id.core m.req.id.op m.req.id.part m.req.call.kind m.req.call.slot m.req.call.dest m.req.call.core m.req.call.mask m.req.call.object m.req.call.bits m.req.call.level m.req.call.offset m.req.call.count m.req.call.index m.req.call.addr m.req.region m.req.width m.req.src.id.core m.req.src.id.op m.req.src.id.part (Zb m.req.src.path) m.req.src.cap.kind m.req.src.cap.base m.req.src.cap.bits m.req.src.cap.rights m.req.src.cap.width m.req.src.cap.level m.req.src.cap.device (Zb m.ids) (m.nodes.map ZY) (Za m.cores) (m.moves.map ZU) m.base m.next.number (Za m.next.members) (Za m.next.owners) (m.state.slots.map Zg) (m.state.pending.map Zv) (m.state.marks.map Zh) (m.state.answers.map Zx) (m.state.entries.map Ze) (Zb m.state.commits) m.report.core m.report.view.number (Za m.report.view.members) (Za m.report.view.owners) (m.report.state.slots.map Zg) (m.report.state.pending.map Zv) (m.report.state.marks.map Zh) (m.report.state.answers.map Zx) (m.report.state.entries.map Ze) (Zb m.report.state.commits) m.report.ready m.report.next.number (Za m.report.next.members) (Za m.report.next.owners) (m.report.proposal.slots.map Zg) (m.report.proposal.pending.map Zv) (m.report.proposal.marks.map Zh) (m.report.proposal.answers.map Zx) (m.report.proposal.entries.map Ze) (Zb m.report.proposal.commits) (Zc acc) 0=some (Zc (acc++(m.moves.map ZfT).flatten),0):=by
 have hn:=h.movesn
 have hn':m.moves.length < 2^63:=by omega
 refine J2 (F:=fun k a i=>Zoc k m.kind m.view m.frm m.to m.round m.region m.slot m.op.core m.op.op m.op.part m.err m.settled m.req.id.core m.req.id.op m.req.id.part m.req.call.kind m.req.call.slot m.req.call.dest m.req.call.core m.req.call.mask m.req.call.object m.req.call.bits m.req.call.level m.req.call.offset m.req.call.count m.req.call.index m.req.call.addr m.req.region m.req.width m.req.src.id.core m.req.src.id.op m.req.src.id.part (Zb m.req.src.path) m.req.src.cap.kind m.req.src.cap.base m.req.src.cap.bits m.req.src.cap.rights m.req.src.cap.width m.req.src.cap.level m.req.src.cap.device (Zb m.ids) (m.nodes.map ZY) (Za m.cores) (m.moves.map ZU) m.base m.next.number (Za m.next.members) (Za m.next.owners) (m.state.slots.map Zg) (m.state.pending.map Zv) (m.state.marks.map Zh) (m.state.answers.map Zx) (m.state.entries.map Ze) (Zb m.state.commits) m.report.core m.report.view.number (Za m.report.view.members) (Za m.report.view.owners) (m.report.state.slots.map Zg) (m.report.state.pending.map Zv) (m.report.state.marks.map Zh) (m.report.state.answers.map Zx) (m.report.state.entries.map Ze) (Zb m.report.state.commits) m.report.ready m.report.next.number (Za m.report.next.members) (Za m.report.next.owners) (m.report.proposal.slots.map Zg) (m.report.proposal.pending.map Zv) (m.report.proposal.marks.map Zh) (m.report.proposal.answers.map Zx) (m.report.proposal.entries.map Ze) (Zb m.report.proposal.commits) a i) (l:=m.moves) ZfT (fun acc=>some (Zc acc,0)) 22 50000000000 hn' (fun x _=>Zf6 x) (fun k i acc hi ha=>?_) (fun k i acc hi ha=>?_) acc (by omega)
 ·refine (Zld ..).trans ?_
  have hz:=h.moves _ (List.getElem_mem hi)
  have b1:=ZN m.moves[i].region
  rw [List.length_map,if_pos (ZQ hi)]
  refine (Yh hi _).trans ?_
  simp only [Yh hi]
  rw [s40 acc (by omega) hz.1.1 hz.1.2,Option.bind_some,s40 _ (by rw [List.length_append];omega) hz.2.1 hz.2.2,Option.bind_some,ZP hi hn',List.append_assoc]
  rfl
 ·refine (Zld ..).trans ?_
  rw [List.length_map,if_neg (ZR hi),if_neg (show ¬ (cop .eql m.kind 2)=true by simp only [CQ];omega),if_neg (show ¬ (cop .eql m.kind 4)=true by simp only [CQ];omega)]
theorem Yn (m:Msg) (h:m.Good):(nB m.region).length≤11∧(ZfL m.req).length≤598∧(idB m.op).length≤33∧(nB m.err).length≤11∧(bB m.settled).length≤11∧(nB m.slot).length≤11∧(nB m.round).length≤11∧(nB m.base).length≤11∧
  m.nodes.length≤2097152∧m.ids.length≤2097152∧m.cores.length≤2097152∧m.moves.length≤2097152∧(nB (m.nodes.length:Int)).length≤11∧(nB (m.moves.length:Int)).length≤11∧(Zw idB m.ids).length≤11+33*2097152∧(Zw nB m.cores).length≤11+11*2097152∧
  (Zpm m.report).length≤7000000000∧(ZcA m.next).length≤50000000∧(Wi m.state).length≤3400000000∧(nB m.kind).length≤11∧(nB m.view).length≤11∧(nB m.frm).length≤11∧(nB m.to).length≤11:=
 ⟨ZN m.region,Zc8 m.req,Y4 m.op,ZN m.err,Zm7 m.settled,ZN m.slot,ZN m.round,ZN m.base,h.nodesn,h.idsn,h.coresn,h.movesn,ZN _,ZN _,J6 idB 33 _ m.ids (fun x _=>Y4 x) h.idsn,J6 nB 11 _ m.cores (fun x _=>ZN x) h.coresn,
  ZoL _ h.report,Ve _ h.next,Vr _ h.state,ZN m.kind,ZN m.view,ZN m.frm,ZN m.to⟩
@[reducible] noncomputable def G8 (m:Msg):=g15 m.kind m.view m.frm m.to m.round m.region m.slot m.op.core m.op.op m.op.part m.err m.settled m.req.id.core m.req.id.op m.req.id.part m.req.call.kind m.req.call.slot m.req.call.dest m.req.call.core m.req.call.mask m.req.call.object m.req.call.bits m.req.call.level m.req.call.offset m.req.call.count m.req.call.index m.req.call.addr m.req.region m.req.width m.req.src.id.core m.req.src.id.op m.req.src.id.part (Zb m.req.src.path) m.req.src.cap.kind m.req.src.cap.base m.req.src.cap.bits m.req.src.cap.rights m.req.src.cap.width m.req.src.cap.level m.req.src.cap.device (Zb m.ids) (m.nodes.map ZY) (Za m.cores) (m.moves.map ZU) m.base m.next.number (Za m.next.members) (Za m.next.owners) (m.state.slots.map Zg) (m.state.pending.map Zv) (m.state.marks.map Zh) (m.state.answers.map Zx) (m.state.entries.map Ze) (Zb m.state.commits) m.report.core m.report.view.number (Za m.report.view.members) (Za m.report.view.owners) (m.report.state.slots.map Zg) (m.report.state.pending.map Zv) (m.report.state.marks.map Zh) (m.report.state.answers.map Zx) (m.report.state.entries.map Ze) (Zb m.report.state.commits) m.report.ready m.report.next.number (Za m.report.next.members) (Za m.report.next.owners) (m.report.proposal.slots.map Zg) (m.report.proposal.pending.map Zv) (m.report.proposal.marks.map Zh) (m.report.proposal.answers.map Zx) (m.report.proposal.entries.map Ze) (Zb m.report.proposal.commits)
theorem ZDE (m:Msg) (hf:m.Fits) (h:m.Good) (hv:Jn m=true) (hk:m.kind=1):G8 m=some (Zc (Yl m++((kf 1).map (Z5 m)).flatten),0):=by
 obtain ⟨b0,b1,b2,b3,b4,b6,b8,b11,n5,n7,n9,n14,b5,b14,b7,b9,b10,b12,b13,k0,k1,k2,k3⟩:=Yn m h
 have e0:E0=Zc []:=rfl
 unfold G8
 rw [Y2,s16 m hf,Option.bind_some,hv,if_neg (show ¬ (!true)=true by decide),e0,s40 [] (by simp) h.kind.1 h.kind.2,Option.bind_some,s40 _ (by simp only [List.length_append,List.length_nil];omega) h.view.1 h.view.2,Option.bind_some,s40 _ (by simp only [List.length_append,List.length_nil];omega) h.frm.1 h.frm.2,Option.bind_some,s40 _ (by simp only [List.length_append,List.length_nil];omega) h.to.1 h.to.2,Option.bind_some]
 rw [if_pos (keq hk)]
 rw [s40 _ (by simp only [List.length_append,List.length_nil];omega) h.region.1 h.region.2,Option.bind_some]
 rw [s41 _ (by simp only [List.length_append,List.length_nil];omega) _ h.req,Option.bind_some]
 rw [if_neg (kne (show m.kind≠2 by omega))]
 rw [if_neg (kne (show m.kind≠4 by omega))]
 simp only [Yl,kf,Z5,Zw,List.map_cons,List.map_nil,List.flatten_cons,List.flatten_nil,List.nil_append,List.append_nil,List.append_assoc]
theorem ZDH (m:Msg) (hf:m.Fits) (h:m.Good) (hv:Jn m=true) (hk:m.kind=2):G8 m=some (Zc (Yl m++((kf 2).map (Z5 m)).flatten),0):=by
 obtain ⟨b0,b1,b2,b3,b4,b6,b8,b11,n5,n7,n9,n14,b5,b14,b7,b9,b10,b12,b13,k0,k1,k2,k3⟩:=Yn m h
 have e0:E0=Zc []:=rfl
 unfold G8
 rw [Y2,s16 m hf,Option.bind_some,hv,if_neg (show ¬ (!true)=true by decide),e0,s40 [] (by simp) h.kind.1 h.kind.2,Option.bind_some,s40 _ (by simp only [List.length_append,List.length_nil];omega) h.view.1 h.view.2,Option.bind_some,s40 _ (by simp only [List.length_append,List.length_nil];omega) h.frm.1 h.frm.2,Option.bind_some,s40 _ (by simp only [List.length_append,List.length_nil];omega) h.to.1 h.to.2,Option.bind_some]
 rw [if_neg (kne (show m.kind≠1 by omega))]
 rw [if_pos (keq hk)]
 rw [s40 _ (by simp only [List.length_append,List.length_nil];omega) h.region.1 h.region.2,Option.bind_some]
 rw [Zj0 _ (by simp only [List.length_append,List.length_nil];omega) h.op,Option.bind_some]
 rw [s40 _ (by simp only [List.length_append,List.length_nil];omega) h.err.1 h.err.2,Option.bind_some]
 rw [s42 _ (by simp only [List.length_append,List.length_nil];omega),Option.bind_some]
 rw [if_pos (keq hk)]
 rw [List.length_map,s40 _ (by simp only [List.length_append,List.length_nil];omega) (by omega) (by omega),Option.bind_some]
 rw [l15 m h _ (by simp only [List.length_append,List.length_nil];omega)]
 simp only [Yl,kf,Z5,Zw,List.map_cons,List.map_nil,List.flatten_cons,List.flatten_nil,List.nil_append,List.append_nil,List.append_assoc]
theorem ZEi (m:Msg) (hf:m.Fits) (h:m.Good) (hv:Jn m=true) (hk:m.kind=3):G8 m=some (Zc (Yl m++((kf 3).map (Z5 m)).flatten),0):=by
 obtain ⟨b0,b1,b2,b3,b4,b6,b8,b11,n5,n7,n9,n14,b5,b14,b7,b9,b10,b12,b13,k0,k1,k2,k3⟩:=Yn m h
 have e0:E0=Zc []:=rfl
 unfold G8
 rw [Y2,s16 m hf,Option.bind_some,hv,if_neg (show ¬ (!true)=true by decide),e0,s40 [] (by simp) h.kind.1 h.kind.2,Option.bind_some,s40 _ (by simp only [List.length_append,List.length_nil];omega) h.view.1 h.view.2,Option.bind_some,s40 _ (by simp only [List.length_append,List.length_nil];omega) h.frm.1 h.frm.2,Option.bind_some,s40 _ (by simp only [List.length_append,List.length_nil];omega) h.to.1 h.to.2,Option.bind_some]
 rw [if_neg (kne (show m.kind≠1 by omega))]
 rw [if_neg (kne (show m.kind≠2 by omega))]
 rw [if_neg (kne (show m.kind≠4 by omega))]
 rw [if_neg (kne (show m.kind≠5 by omega))]
 rw [if_neg (kne (show m.kind≠6 by omega))]
 rw [if_neg (kne (show m.kind≠12 by omega))]
 rw [if_neg (kne (show m.kind≠13 by omega))]
 rw [if_neg (kne (show m.kind≠14 by omega))]
 rw [if_neg (kne (show m.kind≠15 by omega))]
 rw [if_neg (kne (show m.kind≠16 by omega))]
 rw [if_neg (kne (show m.kind≠17 by omega))]
 rw [s40 _ (by simp only [List.length_append,List.length_nil];omega) h.region.1 h.region.2,Option.bind_some]
 rw [Zj0 _ (by simp only [List.length_append,List.length_nil];omega) h.op,Option.bind_some]
 rw [if_neg (kne (show m.kind≠2 by omega))]
 rw [if_neg (kne (show m.kind≠4 by omega))]
 simp only [Yl,kf,Z5,Zw,List.map_cons,List.map_nil,List.flatten_cons,List.flatten_nil,List.nil_append,List.append_nil,List.append_assoc]
theorem ZEM (m:Msg) (hf:m.Fits) (h:m.Good) (hv:Jn m=true) (hk:m.kind=4):G8 m=some (Zc (Yl m++((kf 4).map (Z5 m)).flatten),0):=by
 obtain ⟨b0,b1,b2,b3,b4,b6,b8,b11,n5,n7,n9,n14,b5,b14,b7,b9,b10,b12,b13,k0,k1,k2,k3⟩:=Yn m h
 have e0:E0=Zc []:=rfl
 unfold G8
 rw [Y2,s16 m hf,Option.bind_some,hv,if_neg (show ¬ (!true)=true by decide),e0,s40 [] (by simp) h.kind.1 h.kind.2,Option.bind_some,s40 _ (by simp only [List.length_append,List.length_nil];omega) h.view.1 h.view.2,Option.bind_some,s40 _ (by simp only [List.length_append,List.length_nil];omega) h.frm.1 h.frm.2,Option.bind_some,s40 _ (by simp only [List.length_append,List.length_nil];omega) h.to.1 h.to.2,Option.bind_some]
 rw [if_neg (kne (show m.kind≠1 by omega))]
 rw [if_neg (kne (show m.kind≠2 by omega))]
 rw [if_pos (keq hk)]
 rw [s40 _ (by simp only [List.length_append,List.length_nil];omega) h.region.1 h.region.2,Option.bind_some]
 rw [Zj0 _ (by simp only [List.length_append,List.length_nil];omega) h.op,Option.bind_some]
 rw [s40 _ (by simp only [List.length_append,List.length_nil];omega) h.slot.1 h.slot.2,Option.bind_some]
 rw [if_neg (kne (show m.kind≠2 by omega))]
 rw [if_pos (keq hk)]
 rw [List.length_map,s40 _ (by simp only [List.length_append,List.length_nil];omega) (by omega) (by omega),Option.bind_some]
 rw [l15 m h _ (by simp only [List.length_append,List.length_nil];omega)]
 simp only [Yl,kf,Z5,Zw,List.map_cons,List.map_nil,List.flatten_cons,List.flatten_nil,List.nil_append,List.append_nil,List.append_assoc]
theorem ZDN (m:Msg) (hf:m.Fits) (h:m.Good) (hv:Jn m=true) (hk:m.kind=5):G8 m=some (Zc (Yl m++((kf 5).map (Z5 m)).flatten),0):=by
 obtain ⟨b0,b1,b2,b3,b4,b6,b8,b11,n5,n7,n9,n14,b5,b14,b7,b9,b10,b12,b13,k0,k1,k2,k3⟩:=Yn m h
 have e0:E0=Zc []:=rfl
 unfold G8
 rw [Y2,s16 m hf,Option.bind_some,hv,if_neg (show ¬ (!true)=true by decide),e0,s40 [] (by simp) h.kind.1 h.kind.2,Option.bind_some,s40 _ (by simp only [List.length_append,List.length_nil];omega) h.view.1 h.view.2,Option.bind_some,s40 _ (by simp only [List.length_append,List.length_nil];omega) h.frm.1 h.frm.2,Option.bind_some,s40 _ (by simp only [List.length_append,List.length_nil];omega) h.to.1 h.to.2,Option.bind_some]
 rw [if_neg (kne (show m.kind≠1 by omega))]
 rw [if_neg (kne (show m.kind≠2 by omega))]
 rw [if_neg (kne (show m.kind≠4 by omega))]
 rw [if_pos (keq hk)]
 rw [s40 _ (by simp only [List.length_append,List.length_nil];omega) h.region.1 h.region.2,Option.bind_some]
 rw [Zj0 _ (by simp only [List.length_append,List.length_nil];omega) h.op,Option.bind_some]
 rw [s40 _ (by simp only [List.length_append,List.length_nil];omega) h.err.1 h.err.2,Option.bind_some]
 rw [if_neg (kne (show m.kind≠2 by omega))]
 rw [if_neg (kne (show m.kind≠4 by omega))]
 simp only [Yl,kf,Z5,Zw,List.map_cons,List.map_nil,List.flatten_cons,List.flatten_nil,List.nil_append,List.append_nil,List.append_assoc]
theorem ZFb (m:Msg) (hf:m.Fits) (h:m.Good) (hv:Jn m=true) (hk:m.kind=6):G8 m=some (Zc (Yl m++((kf 6).map (Z5 m)).flatten),0):=by
 obtain ⟨b0,b1,b2,b3,b4,b6,b8,b11,n5,n7,n9,n14,b5,b14,b7,b9,b10,b12,b13,k0,k1,k2,k3⟩:=Yn m h
 have e0:E0=Zc []:=rfl
 unfold G8
 rw [Y2,s16 m hf,Option.bind_some,hv,if_neg (show ¬ (!true)=true by decide),e0,s40 [] (by simp) h.kind.1 h.kind.2,Option.bind_some,s40 _ (by simp only [List.length_append,List.length_nil];omega) h.view.1 h.view.2,Option.bind_some,s40 _ (by simp only [List.length_append,List.length_nil];omega) h.frm.1 h.frm.2,Option.bind_some,s40 _ (by simp only [List.length_append,List.length_nil];omega) h.to.1 h.to.2,Option.bind_some]
 rw [if_neg (kne (show m.kind≠1 by omega))]
 rw [if_neg (kne (show m.kind≠2 by omega))]
 rw [if_neg (kne (show m.kind≠4 by omega))]
 rw [if_neg (kne (show m.kind≠5 by omega))]
 rw [if_pos (keq hk)]
 rw [s40 _ (by simp only [List.length_append,List.length_nil];omega) h.region.1 h.region.2,Option.bind_some]
 rw [Zj0 _ (by simp only [List.length_append,List.length_nil];omega) h.op,Option.bind_some]
 rw [s44 _ _ (by simp only [List.length_append,List.length_nil];omega) (by omega) h.ids,Option.bind_some]
 rw [if_neg (kne (show m.kind≠2 by omega))]
 rw [if_neg (kne (show m.kind≠4 by omega))]
 simp only [Yl,kf,Z5,Zw,List.map_cons,List.map_nil,List.flatten_cons,List.flatten_nil,List.nil_append,List.append_nil,List.append_assoc]
theorem ZFa (m:Msg) (hf:m.Fits) (h:m.Good) (hv:Jn m=true) (hk:m.kind=7):G8 m=some (Zc (Yl m++((kf 7).map (Z5 m)).flatten),0):=by
 obtain ⟨b0,b1,b2,b3,b4,b6,b8,b11,n5,n7,n9,n14,b5,b14,b7,b9,b10,b12,b13,k0,k1,k2,k3⟩:=Yn m h
 have e0:E0=Zc []:=rfl
 unfold G8
 rw [Y2,s16 m hf,Option.bind_some,hv,if_neg (show ¬ (!true)=true by decide),e0,s40 [] (by simp) h.kind.1 h.kind.2,Option.bind_some,s40 _ (by simp only [List.length_append,List.length_nil];omega) h.view.1 h.view.2,Option.bind_some,s40 _ (by simp only [List.length_append,List.length_nil];omega) h.frm.1 h.frm.2,Option.bind_some,s40 _ (by simp only [List.length_append,List.length_nil];omega) h.to.1 h.to.2,Option.bind_some]
 rw [if_neg (kne (show m.kind≠1 by omega))]
 rw [if_neg (kne (show m.kind≠2 by omega))]
 rw [if_neg (kne (show m.kind≠4 by omega))]
 rw [if_neg (kne (show m.kind≠5 by omega))]
 rw [if_neg (kne (show m.kind≠6 by omega))]
 rw [if_neg (kne (show m.kind≠12 by omega))]
 rw [if_neg (kne (show m.kind≠13 by omega))]
 rw [if_neg (kne (show m.kind≠14 by omega))]
 rw [if_neg (kne (show m.kind≠15 by omega))]
 rw [if_neg (kne (show m.kind≠16 by omega))]
 rw [if_neg (kne (show m.kind≠17 by omega))]
 rw [s40 _ (by simp only [List.length_append,List.length_nil];omega) h.region.1 h.region.2,Option.bind_some]
 rw [Zj0 _ (by simp only [List.length_append,List.length_nil];omega) h.op,Option.bind_some]
 rw [if_neg (kne (show m.kind≠2 by omega))]
 rw [if_neg (kne (show m.kind≠4 by omega))]
 simp only [Yl,kf,Z5,Zw,List.map_cons,List.map_nil,List.flatten_cons,List.flatten_nil,List.nil_append,List.append_nil,List.append_assoc]
theorem ZEr (m:Msg) (hf:m.Fits) (h:m.Good) (hv:Jn m=true) (hk:m.kind=8):G8 m=some (Zc (Yl m++((kf 8).map (Z5 m)).flatten),0):=by
 obtain ⟨b0,b1,b2,b3,b4,b6,b8,b11,n5,n7,n9,n14,b5,b14,b7,b9,b10,b12,b13,k0,k1,k2,k3⟩:=Yn m h
 have e0:E0=Zc []:=rfl
 unfold G8
 rw [Y2,s16 m hf,Option.bind_some,hv,if_neg (show ¬ (!true)=true by decide),e0,s40 [] (by simp) h.kind.1 h.kind.2,Option.bind_some,s40 _ (by simp only [List.length_append,List.length_nil];omega) h.view.1 h.view.2,Option.bind_some,s40 _ (by simp only [List.length_append,List.length_nil];omega) h.frm.1 h.frm.2,Option.bind_some,s40 _ (by simp only [List.length_append,List.length_nil];omega) h.to.1 h.to.2,Option.bind_some]
 rw [if_neg (kne (show m.kind≠1 by omega))]
 rw [if_neg (kne (show m.kind≠2 by omega))]
 rw [if_neg (kne (show m.kind≠4 by omega))]
 rw [if_neg (kne (show m.kind≠5 by omega))]
 rw [if_neg (kne (show m.kind≠6 by omega))]
 rw [if_neg (kne (show m.kind≠12 by omega))]
 rw [if_neg (kne (show m.kind≠13 by omega))]
 rw [if_neg (kne (show m.kind≠14 by omega))]
 rw [if_neg (kne (show m.kind≠15 by omega))]
 rw [if_neg (kne (show m.kind≠16 by omega))]
 rw [if_neg (kne (show m.kind≠17 by omega))]
 rw [s40 _ (by simp only [List.length_append,List.length_nil];omega) h.region.1 h.region.2,Option.bind_some]
 rw [Zj0 _ (by simp only [List.length_append,List.length_nil];omega) h.op,Option.bind_some]
 rw [if_neg (kne (show m.kind≠2 by omega))]
 rw [if_neg (kne (show m.kind≠4 by omega))]
 simp only [Yl,kf,Z5,Zw,List.map_cons,List.map_nil,List.flatten_cons,List.flatten_nil,List.nil_append,List.append_nil,List.append_assoc]
theorem ZEF (m:Msg) (hf:m.Fits) (h:m.Good) (hv:Jn m=true) (hk:m.kind=9):G8 m=some (Zc (Yl m++((kf 9).map (Z5 m)).flatten),0):=by
 obtain ⟨b0,b1,b2,b3,b4,b6,b8,b11,n5,n7,n9,n14,b5,b14,b7,b9,b10,b12,b13,k0,k1,k2,k3⟩:=Yn m h
 have e0:E0=Zc []:=rfl
 unfold G8
 rw [Y2,s16 m hf,Option.bind_some,hv,if_neg (show ¬ (!true)=true by decide),e0,s40 [] (by simp) h.kind.1 h.kind.2,Option.bind_some,s40 _ (by simp only [List.length_append,List.length_nil];omega) h.view.1 h.view.2,Option.bind_some,s40 _ (by simp only [List.length_append,List.length_nil];omega) h.frm.1 h.frm.2,Option.bind_some,s40 _ (by simp only [List.length_append,List.length_nil];omega) h.to.1 h.to.2,Option.bind_some]
 rw [if_neg (kne (show m.kind≠1 by omega))]
 rw [if_neg (kne (show m.kind≠2 by omega))]
 rw [if_neg (kne (show m.kind≠4 by omega))]
 rw [if_neg (kne (show m.kind≠5 by omega))]
 rw [if_neg (kne (show m.kind≠6 by omega))]
 rw [if_neg (kne (show m.kind≠12 by omega))]
 rw [if_neg (kne (show m.kind≠13 by omega))]
 rw [if_neg (kne (show m.kind≠14 by omega))]
 rw [if_neg (kne (show m.kind≠15 by omega))]
 rw [if_neg (kne (show m.kind≠16 by omega))]
 rw [if_neg (kne (show m.kind≠17 by omega))]
 rw [s40 _ (by simp only [List.length_append,List.length_nil];omega) h.region.1 h.region.2,Option.bind_some]
 rw [Zj0 _ (by simp only [List.length_append,List.length_nil];omega) h.op,Option.bind_some]
 rw [if_neg (kne (show m.kind≠2 by omega))]
 rw [if_neg (kne (show m.kind≠4 by omega))]
 simp only [Yl,kf,Z5,Zw,List.map_cons,List.map_nil,List.flatten_cons,List.flatten_nil,List.nil_append,List.append_nil,List.append_assoc]
theorem ZAi (m:Msg) (hf:m.Fits) (h:m.Good) (hv:Jn m=true) (hk:m.kind=10):G8 m=some (Zc (Yl m++((kf 10).map (Z5 m)).flatten),0):=by
 obtain ⟨b0,b1,b2,b3,b4,b6,b8,b11,n5,n7,n9,n14,b5,b14,b7,b9,b10,b12,b13,k0,k1,k2,k3⟩:=Yn m h
 have e0:E0=Zc []:=rfl
 unfold G8
 rw [Y2,s16 m hf,Option.bind_some,hv,if_neg (show ¬ (!true)=true by decide),e0,s40 [] (by simp) h.kind.1 h.kind.2,Option.bind_some,s40 _ (by simp only [List.length_append,List.length_nil];omega) h.view.1 h.view.2,Option.bind_some,s40 _ (by simp only [List.length_append,List.length_nil];omega) h.frm.1 h.frm.2,Option.bind_some,s40 _ (by simp only [List.length_append,List.length_nil];omega) h.to.1 h.to.2,Option.bind_some]
 rw [if_neg (kne (show m.kind≠1 by omega))]
 rw [if_neg (kne (show m.kind≠2 by omega))]
 rw [if_neg (kne (show m.kind≠4 by omega))]
 rw [if_neg (kne (show m.kind≠5 by omega))]
 rw [if_neg (kne (show m.kind≠6 by omega))]
 rw [if_neg (kne (show m.kind≠12 by omega))]
 rw [if_neg (kne (show m.kind≠13 by omega))]
 rw [if_neg (kne (show m.kind≠14 by omega))]
 rw [if_neg (kne (show m.kind≠15 by omega))]
 rw [if_neg (kne (show m.kind≠16 by omega))]
 rw [if_neg (kne (show m.kind≠17 by omega))]
 rw [s40 _ (by simp only [List.length_append,List.length_nil];omega) h.region.1 h.region.2,Option.bind_some]
 rw [Zj0 _ (by simp only [List.length_append,List.length_nil];omega) h.op,Option.bind_some]
 rw [if_neg (kne (show m.kind≠2 by omega))]
 rw [if_neg (kne (show m.kind≠4 by omega))]
 simp only [Yl,kf,Z5,Zw,List.map_cons,List.map_nil,List.flatten_cons,List.flatten_nil,List.nil_append,List.append_nil,List.append_assoc]
theorem ZzC (m:Msg) (hf:m.Fits) (h:m.Good) (hv:Jn m=true) (hk:m.kind=11):G8 m=some (Zc (Yl m++((kf 11).map (Z5 m)).flatten),0):=by
 obtain ⟨b0,b1,b2,b3,b4,b6,b8,b11,n5,n7,n9,n14,b5,b14,b7,b9,b10,b12,b13,k0,k1,k2,k3⟩:=Yn m h
 have e0:E0=Zc []:=rfl
 unfold G8
 rw [Y2,s16 m hf,Option.bind_some,hv,if_neg (show ¬ (!true)=true by decide),e0,s40 [] (by simp) h.kind.1 h.kind.2,Option.bind_some,s40 _ (by simp only [List.length_append,List.length_nil];omega) h.view.1 h.view.2,Option.bind_some,s40 _ (by simp only [List.length_append,List.length_nil];omega) h.frm.1 h.frm.2,Option.bind_some,s40 _ (by simp only [List.length_append,List.length_nil];omega) h.to.1 h.to.2,Option.bind_some]
 rw [if_neg (kne (show m.kind≠1 by omega))]
 rw [if_neg (kne (show m.kind≠2 by omega))]
 rw [if_neg (kne (show m.kind≠4 by omega))]
 rw [if_neg (kne (show m.kind≠5 by omega))]
 rw [if_neg (kne (show m.kind≠6 by omega))]
 rw [if_neg (kne (show m.kind≠12 by omega))]
 rw [if_neg (kne (show m.kind≠13 by omega))]
 rw [if_neg (kne (show m.kind≠14 by omega))]
 rw [if_neg (kne (show m.kind≠15 by omega))]
 rw [if_neg (kne (show m.kind≠16 by omega))]
 rw [if_neg (kne (show m.kind≠17 by omega))]
 rw [s40 _ (by simp only [List.length_append,List.length_nil];omega) h.region.1 h.region.2,Option.bind_some]
 rw [Zj0 _ (by simp only [List.length_append,List.length_nil];omega) h.op,Option.bind_some]
 rw [if_neg (kne (show m.kind≠2 by omega))]
 rw [if_neg (kne (show m.kind≠4 by omega))]
 simp only [Yl,kf,Z5,Zw,List.map_cons,List.map_nil,List.flatten_cons,List.flatten_nil,List.nil_append,List.append_nil,List.append_assoc]
theorem ZBa (m:Msg) (hf:m.Fits) (h:m.Good) (hv:Jn m=true) (hk:m.kind=12):G8 m=some (Zc (Yl m++((kf 12).map (Z5 m)).flatten),0):=by
 obtain ⟨b0,b1,b2,b3,b4,b6,b8,b11,n5,n7,n9,n14,b5,b14,b7,b9,b10,b12,b13,k0,k1,k2,k3⟩:=Yn m h
 have e0:E0=Zc []:=rfl
 unfold G8
 rw [Y2,s16 m hf,Option.bind_some,hv,if_neg (show ¬ (!true)=true by decide),e0,s40 [] (by simp) h.kind.1 h.kind.2,Option.bind_some,s40 _ (by simp only [List.length_append,List.length_nil];omega) h.view.1 h.view.2,Option.bind_some,s40 _ (by simp only [List.length_append,List.length_nil];omega) h.frm.1 h.frm.2,Option.bind_some,s40 _ (by simp only [List.length_append,List.length_nil];omega) h.to.1 h.to.2,Option.bind_some]
 rw [if_neg (kne (show m.kind≠1 by omega))]
 rw [if_neg (kne (show m.kind≠2 by omega))]
 rw [if_neg (kne (show m.kind≠4 by omega))]
 rw [if_neg (kne (show m.kind≠5 by omega))]
 rw [if_neg (kne (show m.kind≠6 by omega))]
 rw [if_pos (keq hk)]
 rw [s40 _ (by simp only [List.length_append,List.length_nil];omega) h.round.1 h.round.2,Option.bind_some]
 rw [s45 _ _ (by simp only [List.length_append,List.length_nil];omega) (by omega) h.cores,Option.bind_some]
 rw [if_neg (kne (show m.kind≠2 by omega))]
 rw [if_neg (kne (show m.kind≠4 by omega))]
 simp only [Yl,kf,Z5,Zw,List.map_cons,List.map_nil,List.flatten_cons,List.flatten_nil,List.nil_append,List.append_nil,List.append_assoc]
theorem ZzH (m:Msg) (hf:m.Fits) (h:m.Good) (hv:Jn m=true) (hk:m.kind=13):G8 m=some (Zc (Yl m++((kf 13).map (Z5 m)).flatten),0):=by
 obtain ⟨b0,b1,b2,b3,b4,b6,b8,b11,n5,n7,n9,n14,b5,b14,b7,b9,b10,b12,b13,k0,k1,k2,k3⟩:=Yn m h
 have e0:E0=Zc []:=rfl
 unfold G8
 rw [Y2,s16 m hf,Option.bind_some,hv,if_neg (show ¬ (!true)=true by decide),e0,s40 [] (by simp) h.kind.1 h.kind.2,Option.bind_some,s40 _ (by simp only [List.length_append,List.length_nil];omega) h.view.1 h.view.2,Option.bind_some,s40 _ (by simp only [List.length_append,List.length_nil];omega) h.frm.1 h.frm.2,Option.bind_some,s40 _ (by simp only [List.length_append,List.length_nil];omega) h.to.1 h.to.2,Option.bind_some]
 rw [if_neg (kne (show m.kind≠1 by omega))]
 rw [if_neg (kne (show m.kind≠2 by omega))]
 rw [if_neg (kne (show m.kind≠4 by omega))]
 rw [if_neg (kne (show m.kind≠5 by omega))]
 rw [if_neg (kne (show m.kind≠6 by omega))]
 rw [if_neg (kne (show m.kind≠12 by omega))]
 rw [if_pos (keq hk)]
 rw [s40 _ (by simp only [List.length_append,List.length_nil];omega) h.round.1 h.round.2,Option.bind_some]
 rw [s46 _ (by simp only [List.length_append,List.length_nil];omega) _ h.report,Option.bind_some]
 rw [if_neg (kne (show m.kind≠2 by omega))]
 rw [if_neg (kne (show m.kind≠4 by omega))]
 simp only [Yl,kf,Z5,Zw,List.map_cons,List.map_nil,List.flatten_cons,List.flatten_nil,List.nil_append,List.append_nil,List.append_assoc]
theorem ZCJ (m:Msg) (hf:m.Fits) (h:m.Good) (hv:Jn m=true) (hk:m.kind=14):G8 m=some (Zc (Yl m++((kf 14).map (Z5 m)).flatten),0):=by
 obtain ⟨b0,b1,b2,b3,b4,b6,b8,b11,n5,n7,n9,n14,b5,b14,b7,b9,b10,b12,b13,k0,k1,k2,k3⟩:=Yn m h
 have e0:E0=Zc []:=rfl
 unfold G8
 rw [Y2,s16 m hf,Option.bind_some,hv,if_neg (show ¬ (!true)=true by decide),e0,s40 [] (by simp) h.kind.1 h.kind.2,Option.bind_some,s40 _ (by simp only [List.length_append,List.length_nil];omega) h.view.1 h.view.2,Option.bind_some,s40 _ (by simp only [List.length_append,List.length_nil];omega) h.frm.1 h.frm.2,Option.bind_some,s40 _ (by simp only [List.length_append,List.length_nil];omega) h.to.1 h.to.2,Option.bind_some]
 rw [if_neg (kne (show m.kind≠1 by omega))]
 rw [if_neg (kne (show m.kind≠2 by omega))]
 rw [if_neg (kne (show m.kind≠4 by omega))]
 rw [if_neg (kne (show m.kind≠5 by omega))]
 rw [if_neg (kne (show m.kind≠6 by omega))]
 rw [if_neg (kne (show m.kind≠12 by omega))]
 rw [if_neg (kne (show m.kind≠13 by omega))]
 rw [if_pos (keq hk)]
 rw [s40 _ (by simp only [List.length_append,List.length_nil];omega) h.round.1 h.round.2,Option.bind_some]
 rw [s40 _ (by simp only [List.length_append,List.length_nil];omega) h.base.1 h.base.2,Option.bind_some]
 rw [s45 _ _ (by simp only [List.length_append,List.length_nil];omega) (by omega) h.cores,Option.bind_some]
 rw [s48 _ (by simp only [List.length_append,List.length_nil];omega) _ h.next,Option.bind_some]
 rw [s47 _ (by simp only [List.length_append,List.length_nil];omega) _ h.state,Option.bind_some]
 rw [if_neg (kne (show m.kind≠2 by omega))]
 rw [if_neg (kne (show m.kind≠4 by omega))]
 simp only [Yl,kf,Z5,Zw,List.map_cons,List.map_nil,List.flatten_cons,List.flatten_nil,List.nil_append,List.append_nil,List.append_assoc]
theorem ZCK (m:Msg) (hf:m.Fits) (h:m.Good) (hv:Jn m=true) (hk:m.kind=15):G8 m=some (Zc (Yl m++((kf 15).map (Z5 m)).flatten),0):=by
 obtain ⟨b0,b1,b2,b3,b4,b6,b8,b11,n5,n7,n9,n14,b5,b14,b7,b9,b10,b12,b13,k0,k1,k2,k3⟩:=Yn m h
 have e0:E0=Zc []:=rfl
 unfold G8
 rw [Y2,s16 m hf,Option.bind_some,hv,if_neg (show ¬ (!true)=true by decide),e0,s40 [] (by simp) h.kind.1 h.kind.2,Option.bind_some,s40 _ (by simp only [List.length_append,List.length_nil];omega) h.view.1 h.view.2,Option.bind_some,s40 _ (by simp only [List.length_append,List.length_nil];omega) h.frm.1 h.frm.2,Option.bind_some,s40 _ (by simp only [List.length_append,List.length_nil];omega) h.to.1 h.to.2,Option.bind_some]
 rw [if_neg (kne (show m.kind≠1 by omega))]
 rw [if_neg (kne (show m.kind≠2 by omega))]
 rw [if_neg (kne (show m.kind≠4 by omega))]
 rw [if_neg (kne (show m.kind≠5 by omega))]
 rw [if_neg (kne (show m.kind≠6 by omega))]
 rw [if_neg (kne (show m.kind≠12 by omega))]
 rw [if_neg (kne (show m.kind≠13 by omega))]
 rw [if_neg (kne (show m.kind≠14 by omega))]
 rw [if_pos (keq hk)]
 rw [s40 _ (by simp only [List.length_append,List.length_nil];omega) h.round.1 h.round.2,Option.bind_some]
 rw [if_neg (kne (show m.kind≠2 by omega))]
 rw [if_neg (kne (show m.kind≠4 by omega))]
 simp only [Yl,kf,Z5,Zw,List.map_cons,List.map_nil,List.flatten_cons,List.flatten_nil,List.nil_append,List.append_nil,List.append_assoc]
theorem ZBW (m:Msg) (hf:m.Fits) (h:m.Good) (hv:Jn m=true) (hk:m.kind=16):G8 m=some (Zc (Yl m++((kf 16).map (Z5 m)).flatten),0):=by
 obtain ⟨b0,b1,b2,b3,b4,b6,b8,b11,n5,n7,n9,n14,b5,b14,b7,b9,b10,b12,b13,k0,k1,k2,k3⟩:=Yn m h
 have e0:E0=Zc []:=rfl
 unfold G8
 rw [Y2,s16 m hf,Option.bind_some,hv,if_neg (show ¬ (!true)=true by decide),e0,s40 [] (by simp) h.kind.1 h.kind.2,Option.bind_some,s40 _ (by simp only [List.length_append,List.length_nil];omega) h.view.1 h.view.2,Option.bind_some,s40 _ (by simp only [List.length_append,List.length_nil];omega) h.frm.1 h.frm.2,Option.bind_some,s40 _ (by simp only [List.length_append,List.length_nil];omega) h.to.1 h.to.2,Option.bind_some]
 rw [if_neg (kne (show m.kind≠1 by omega))]
 rw [if_neg (kne (show m.kind≠2 by omega))]
 rw [if_neg (kne (show m.kind≠4 by omega))]
 rw [if_neg (kne (show m.kind≠5 by omega))]
 rw [if_neg (kne (show m.kind≠6 by omega))]
 rw [if_neg (kne (show m.kind≠12 by omega))]
 rw [if_neg (kne (show m.kind≠13 by omega))]
 rw [if_neg (kne (show m.kind≠14 by omega))]
 rw [if_neg (kne (show m.kind≠15 by omega))]
 rw [if_pos (keq hk)]
 rw [s40 _ (by simp only [List.length_append,List.length_nil];omega) h.round.1 h.round.2,Option.bind_some]
 rw [if_neg (kne (show m.kind≠2 by omega))]
 rw [if_neg (kne (show m.kind≠4 by omega))]
 simp only [Yl,kf,Z5,Zw,List.map_cons,List.map_nil,List.flatten_cons,List.flatten_nil,List.nil_append,List.append_nil,List.append_assoc]
theorem ZAs (m:Msg) (hf:m.Fits) (h:m.Good) (hv:Jn m=true) (hk:m.kind=17):G8 m=some (Zc (Yl m++((kf 17).map (Z5 m)).flatten),0):=by
 obtain ⟨b0,b1,b2,b3,b4,b6,b8,b11,n5,n7,n9,n14,b5,b14,b7,b9,b10,b12,b13,k0,k1,k2,k3⟩:=Yn m h
 have e0:E0=Zc []:=rfl
 unfold G8
 rw [Y2,s16 m hf,Option.bind_some,hv,if_neg (show ¬ (!true)=true by decide),e0,s40 [] (by simp) h.kind.1 h.kind.2,Option.bind_some,s40 _ (by simp only [List.length_append,List.length_nil];omega) h.view.1 h.view.2,Option.bind_some,s40 _ (by simp only [List.length_append,List.length_nil];omega) h.frm.1 h.frm.2,Option.bind_some,s40 _ (by simp only [List.length_append,List.length_nil];omega) h.to.1 h.to.2,Option.bind_some]
 rw [if_neg (kne (show m.kind≠1 by omega))]
 rw [if_neg (kne (show m.kind≠2 by omega))]
 rw [if_neg (kne (show m.kind≠4 by omega))]
 rw [if_neg (kne (show m.kind≠5 by omega))]
 rw [if_neg (kne (show m.kind≠6 by omega))]
 rw [if_neg (kne (show m.kind≠12 by omega))]
 rw [if_neg (kne (show m.kind≠13 by omega))]
 rw [if_neg (kne (show m.kind≠14 by omega))]
 rw [if_neg (kne (show m.kind≠15 by omega))]
 rw [if_neg (kne (show m.kind≠16 by omega))]
 rw [if_pos (keq hk)]
 rw [s45 _ _ (by simp only [List.length_append,List.length_nil];omega) (by omega) h.cores,Option.bind_some]
 rw [List.length_map,s40 _ (by simp only [List.length_append,List.length_nil];omega) (by omega) (by omega),Option.bind_some]
 rw [ZEd m hk h _ (by simp only [List.length_append,List.length_nil];omega)]
 simp only [Yl,kf,Z5,Zw,List.map_cons,List.map_nil,List.flatten_cons,List.flatten_nil,List.nil_append,List.append_nil,List.append_assoc]
theorem s15 (m:Msg) (hf:m.Fits) (h:Jn m=true→m.Good):g15 m.kind m.view m.frm m.to m.round m.region m.slot m.op.core m.op.op m.op.part m.err m.settled m.req.id.core m.req.id.op m.req.id.part m.req.call.kind m.req.call.slot m.req.call.dest m.req.call.core m.req.call.mask m.req.call.object m.req.call.bits m.req.call.level m.req.call.offset m.req.call.count m.req.call.index m.req.call.addr m.req.region m.req.width m.req.src.id.core m.req.src.id.op m.req.src.id.part (Zb m.req.src.path) m.req.src.cap.kind m.req.src.cap.base m.req.src.cap.bits m.req.src.cap.rights m.req.src.cap.width m.req.src.cap.level m.req.src.cap.device (Zb m.ids) (m.nodes.map ZY) (Za m.cores) (m.moves.map ZU) m.base m.next.number (Za m.next.members) (Za m.next.owners) (m.state.slots.map Zg) (m.state.pending.map Zv) (m.state.marks.map Zh) (m.state.answers.map Zx) (m.state.entries.map Ze) (Zb m.state.commits) m.report.core m.report.view.number (Za m.report.view.members) (Za m.report.view.owners) (m.report.state.slots.map Zg) (m.report.state.pending.map Zv) (m.report.state.marks.map Zh) (m.report.state.answers.map Zx) (m.report.state.entries.map Ze) (Zb m.report.state.commits) m.report.ready m.report.next.number (Za m.report.next.members) (Za m.report.next.owners) (m.report.proposal.slots.map Zg) (m.report.proposal.pending.map Zv) (m.report.proposal.marks.map Zh) (m.report.proposal.answers.map Zx) (m.report.proposal.entries.map Ze) (Zb m.report.proposal.commits)=some (if Jn m=true then (Zc (ZuG m),0) else (E0,1)):=by
 cases hv:Jn m with
 | false => rw [Y2, s16 m hf, Option.bind_some, hv]; rfl
 | true =>
  have hg:=h hv
  rw [if_pos rfl]
  have hk:1≤m.kind∧m.kind≤17:=by
   unfold Jn headOk kindOk at hv
   simp only [Bool.and_eq_true,decide_eq_true_eq] at hv
   exact hv.1.1.1.1
  unfold ZuG
  rcases (show m.kind=1∨m.kind=2∨m.kind=3∨m.kind=4∨m.kind=5∨m.kind=6∨m.kind=7∨m.kind=8∨m.kind=9∨m.kind=10∨m.kind=11∨m.kind=12∨m.kind=13∨m.kind=14∨m.kind=15∨m.kind=16∨m.kind=17 by omega) with e | e | e | e | e | e | e | e | e | e | e | e | e | e | e | e | e
  ·refine (ZDE m hf hg hv e).trans ?_;rw [e];rfl
  ·refine (ZDH m hf hg hv e).trans ?_;rw [e];rfl
  ·refine (ZEi m hf hg hv e).trans ?_;rw [e];rfl
  ·refine (ZEM m hf hg hv e).trans ?_;rw [e];rfl
  ·refine (ZDN m hf hg hv e).trans ?_;rw [e];rfl
  ·refine (ZFb m hf hg hv e).trans ?_;rw [e];rfl
  ·refine (ZFa m hf hg hv e).trans ?_;rw [e];rfl
  ·refine (ZEr m hf hg hv e).trans ?_;rw [e];rfl
  ·refine (ZEF m hf hg hv e).trans ?_;rw [e];rfl
  ·refine (ZAi m hf hg hv e).trans ?_;rw [e];rfl
  ·refine (ZzC m hf hg hv e).trans ?_;rw [e];rfl
  ·refine (ZBa m hf hg hv e).trans ?_;rw [e];rfl
  ·refine (ZzH m hf hg hv e).trans ?_;rw [e];rfl
  ·refine (ZCJ m hf hg hv e).trans ?_;rw [e];rfl
  ·refine (ZCK m hf hg hv e).trans ?_;rw [e];rfl
  ·refine (ZBW m hf hg hv e).trans ?_;rw [e];rfl
  ·refine (ZAs m hf hg hv e).trans ?_;rw [e];rfl
end Go.Proofs.YtjldbnbdcmfbmaaGreat
end

section
namespace Go.Proofs.YtjldbnbdcmfbmaaGreat
open Go Go.AM
set_option linter.unusedSimpArgs false
set_option linter.unusedVariables false
set_option maxRecDepth 100000
theorem ZCX {z:Int} (h:(Lit.int .i64 z).wf=true):Rng z:=by
 have h1:IntKind.i64.min = -9223372036854775808:=by decide
 have h2:IntKind.i64.max=9223372036854775807:=by decide
 have h3:(2:Int)^63=9223372036854775808:=by decide
 simp [Lit.wf,h1,h2] at h
 unfold Rng
 omega
theorem ZoW {n b:Nat} (h:n*b≤reachBytes) (hb:8≤b):n < 2^44:=by
 have h1:=reachBytes_lt
 have h2:n*8≤n*b:=Nat.mul_le_mul_left n hb
 omega
theorem ZT {d:Nat} {cs:List AV} (h:TyZ Tryz.prog (d+1) 3 cs):∃ z,cs = [I z]∧Rng z:=by
 simp only [TyZ,Tryz.underlying3] at h
 obtain ⟨z,h,hw⟩:=h
 exact ⟨z,h,ZCX hw⟩
theorem Zrr {d:Nat} {cs:List AV} (h:TyZ Tryz.prog (d+1) 26 cs):∃ z,cs = [I z]∧Rng z:=by
 simp only [TyZ,Tryz.underlying26] at h
 obtain ⟨z,h,hw⟩:=h
 exact ⟨z,h,ZCX hw⟩
theorem ZdL {d:Nat} {cs:List AV} (h:TyZ Tryz.prog (d+1) 4 cs):∃ z,cs = [B z]:=by
 simp only [TyZ,Tryz.underlying4] at h
 exact h
theorem Zlr {d:Nat} {cs:List AV} (h:TyZ Tryz.prog (d+2) 25 cs):∃ i:Id,cs=idc i:=by
 rw [TyZ] at h
 simp only [Tryz.underlying25] at h
 obtain ⟨ps,rfl,hl,hp⟩:=h
 obtain ⟨p0,p1,p2,rfl⟩:∃ p0 p1 p2,ps = [p0,p1,p2]:=by
  match ps,hl with
  | [p0, p1, p2], _ => exact ⟨p0, p1, p2, rfl⟩
 obtain ⟨a,rfl,ha⟩:=ZT (hp 0 _ _ rfl rfl)
 obtain ⟨b,rfl,hb⟩:=ZT (hp 1 _ _ rfl rfl)
 obtain ⟨c,rfl,hc⟩:=ZT (hp 2 _ _ rfl rfl)
 exact ⟨⟨a,b,c⟩,rfl⟩
theorem Zu4 {d:Nat} {cs:List AV} (h:TyZ Tryz.prog (d+2) 31 cs):∃ k b s r w l dv,cs = [I k,I b,I s,I r,I w,I l,B dv]:=by
 rw [TyZ] at h
 simp only [Tryz.underlying31] at h
 obtain ⟨ps,rfl,hl,hp⟩:=h
 obtain ⟨p0,p1,p2,p3,p4,p5,p6,rfl⟩:∃ p0 p1 p2 p3 p4 p5 p6,ps = [p0,p1,p2,p3,p4,p5,p6]:=by
  match ps,hl with
  | [p0, p1, p2, p3, p4, p5, p6], _ => exact ⟨p0, p1, p2, p3, p4, p5, p6, rfl⟩
 obtain ⟨k,rfl,_⟩:=ZT (hp 0 _ _ rfl rfl)
 obtain ⟨b,rfl,_⟩:=ZT (hp 1 _ _ rfl rfl)
 obtain ⟨s,rfl,_⟩:=ZT (hp 2 _ _ rfl rfl)
 obtain ⟨r,rfl,_⟩:=ZT (hp 3 _ _ rfl rfl)
 obtain ⟨w,rfl,_⟩:=ZT (hp 4 _ _ rfl rfl)
 obtain ⟨l,rfl,_⟩:=ZT (hp 5 _ _ rfl rfl)
 obtain ⟨dv,rfl⟩:=ZdL (hp 6 _ _ rfl rfl)
 exact ⟨k,b,s,r,w,l,dv,rfl⟩
theorem Zt6 {d:Nat} {cs:List AV} (h:TyZ Tryz.prog (d+2) 28 cs):∃ c:Call,cs=ZBD c∧∀ z∈Yv c,Rng z:=by
 rw [TyZ] at h
 simp only [Tryz.underlying28] at h
 obtain ⟨ps,rfl,hl,hp⟩:=h
 obtain ⟨p0,p1,p2,p3,p4,p5,p6,p7,p8,p9,p10,p11,rfl⟩:∃ p0 p1 p2 p3 p4 p5 p6 p7 p8 p9 p10 p11,ps = [p0,p1,p2,p3,p4,p5,p6,p7,p8,p9,p10,p11]:=by
  match ps,hl with
  | [p0, p1, p2, p3, p4, p5, p6, p7, p8, p9, p10, p11], _ => exact ⟨p0, p1, p2, p3, p4, p5, p6, p7, p8, p9, p10, p11, rfl⟩
 obtain ⟨z0,rfl,h0⟩:=ZT (hp 0 _ _ rfl rfl)
 obtain ⟨z1,rfl,h1⟩:=ZT (hp 1 _ _ rfl rfl)
 obtain ⟨z2,rfl,h2⟩:=ZT (hp 2 _ _ rfl rfl)
 obtain ⟨z3,rfl,h3⟩:=ZT (hp 3 _ _ rfl rfl)
 obtain ⟨z4,rfl,h4⟩:=ZT (hp 4 _ _ rfl rfl)
 obtain ⟨z5,rfl,h5⟩:=ZT (hp 5 _ _ rfl rfl)
 obtain ⟨z6,rfl,h6⟩:=ZT (hp 6 _ _ rfl rfl)
 obtain ⟨z7,rfl,h7⟩:=ZT (hp 7 _ _ rfl rfl)
 obtain ⟨z8,rfl,h8⟩:=ZT (hp 8 _ _ rfl rfl)
 obtain ⟨z9,rfl,h9⟩:=ZT (hp 9 _ _ rfl rfl)
 obtain ⟨z10,rfl,h10⟩:=ZT (hp 10 _ _ rfl rfl)
 obtain ⟨z11,rfl,h11⟩:=ZT (hp 11 _ _ rfl rfl)
 exact ⟨⟨z0,z1,z2,z3,z4,z5,z6,z7,z8,z9,z10,z11⟩,rfl,fun z hz=>by
  simp only [Yv,List.mem_cons,List.not_mem_nil,or_false] at hz
  rcases hz with rfl | rfl | rfl | rfl | rfl | rfl | rfl | rfl | rfl | rfl | rfl | rfl<;>assumption⟩
theorem ZuR:Tryz.prog.cellsOf 25=3:=by kernel_rfl
theorem ZwD:8≤Tryz.prog.bytesOf 25:=by
 have:decide (8≤Tryz.prog.bytesOf 25)=true:=by kernel_rfl
 exact of_decide_eq_true this
theorem ZnF {d:Nat} {cs:List AV} (h:TyZ Tryz.prog (d+3) 29 cs):∃ l:List Id,cs = [.slice false 3 (Zb l)]∧l.length < 2^44∧∀ x∈l,True:=by
 rw [TyZ] at h
 simp only [Tryz.underlying29,ZuR] at h
 obtain ⟨xs,h1,h0,h2,h3⟩:=h
 obtain ⟨l,rfl,h5⟩:=Ye (f:=idc) (p:=fun x=>True) xs fun y hy=>by
  obtain ⟨i,hi⟩:=Zlr (h3 y hy)
  exact ⟨i,hi,trivial⟩
 exact ⟨l,h1,ZoW (by simpa using h0) ZwD,h5⟩
theorem Zng:Tryz.prog.cellsOf 3=1:=by kernel_rfl
theorem Ztm:8≤Tryz.prog.bytesOf 3:=by
 have:decide (8≤Tryz.prog.bytesOf 3)=true:=by kernel_rfl
 exact of_decide_eq_true this
theorem ZiT {d:Nat} {cs:List AV} (h:TyZ Tryz.prog (d+2) 22 cs):∃ l:List Int,cs = [.slice false 1 (Za l)]∧l.length < 2^44∧∀ x∈l,True:=by
 rw [TyZ] at h
 simp only [Tryz.underlying22,Zng] at h
 obtain ⟨xs,h1,h0,h2,h3⟩:=h
 obtain ⟨l,rfl,h5⟩:=Ye (f:=WF) (p:=fun x=>True) xs fun y hy=>by
  obtain ⟨i,hi,_⟩:=ZT (h3 y hy)
  exact ⟨i,hi,trivial⟩
 exact ⟨l,h1,ZoW (by simpa using h0) Ztm,h5⟩
theorem Zf9 {d:Nat} {cs:List AV} (h:TyZ Tryz.prog (d+4) 33 cs):∃ n:YA,cs=ZY n∧n.path.length < 2^44:=by
 rw [TyZ] at h
 simp only [Tryz.underlying33] at h
 obtain ⟨ps,rfl,hl,hp⟩:=h
 obtain ⟨p0,p1,p2,rfl⟩:∃ p0 p1 p2,ps = [p0,p1,p2]:=by
  match ps,hl with
  | [p0, p1, p2], _ => exact ⟨p0, p1, p2, rfl⟩
 obtain ⟨i,rfl⟩:=Zlr (hp 0 _ _ rfl rfl)
 obtain ⟨l,rfl,hl2,_⟩:=ZnF (hp 1 _ _ rfl rfl)
 obtain ⟨k,b,s,r,w,lv,dv,rfl⟩:=Zu4 (hp 2 _ _ rfl rfl)
 exact ⟨⟨i,l,⟨k,b,s,r,w,lv,dv⟩⟩,rfl,hl2⟩
theorem Zrt {d:Nat} {cs:List AV} (h:TyZ Tryz.prog (d+5) 35 cs):∃ r:Req,cs=Zv r∧r.src.path.length < 2^44∧∀ z∈Yv r.call,Rng z:=by
 rw [TyZ] at h
 simp only [Tryz.underlying35] at h
 obtain ⟨ps,rfl,hl,hp⟩:=h
 obtain ⟨p0,p1,p2,p3,p4,rfl⟩:∃ p0 p1 p2 p3 p4,ps = [p0,p1,p2,p3,p4]:=by
  match ps,hl with
  | [p0, p1, p2, p3, p4], _ => exact ⟨p0, p1, p2, p3, p4, rfl⟩
 obtain ⟨i,rfl⟩:=Zlr (hp 0 _ _ rfl rfl)
 obtain ⟨c,rfl,hc⟩:=Zt6 (hp 1 _ _ rfl rfl)
 obtain ⟨a,rfl,_⟩:=ZT (hp 2 _ _ rfl rfl)
 obtain ⟨b,rfl,_⟩:=ZT (hp 3 _ _ rfl rfl)
 obtain ⟨n,rfl,hn⟩:=Zf9 (hp 4 _ _ rfl rfl)
 exact ⟨⟨i,c,a,b,n⟩,rfl,hn,hc⟩
theorem Ztn {d:Nat} {cs:List AV} (h:TyZ Tryz.prog (d+5) 135 cs):∃ s:Kw,cs=Zg s∧s.node.path.length < 2^44:=by
 rw [TyZ] at h
 simp only [Tryz.underlying135] at h
 obtain ⟨ps,rfl,hl,hp⟩:=h
 obtain ⟨p0,p1,p2,rfl⟩:∃ p0 p1 p2,ps = [p0,p1,p2]:=by
  match ps,hl with
  | [p0, p1, p2], _ => exact ⟨p0, p1, p2, rfl⟩
 obtain ⟨n,rfl,hn⟩:=Zf9 (hp 0 _ _ rfl rfl)
 obtain ⟨a,rfl,_⟩:=ZT (hp 1 _ _ rfl rfl)
 obtain ⟨i,rfl⟩:=Zlr (hp 2 _ _ rfl rfl)
 exact ⟨⟨n,a,i⟩,rfl,hn⟩
theorem Zqe {d:Nat} {cs:List AV} (h:TyZ Tryz.prog (d+5) 71 cs):∃ s:ZI,cs=Ze s∧s.node.path.length < 2^44:=by
 rw [TyZ] at h
 simp only [Tryz.underlying71] at h
 obtain ⟨ps,rfl,hl,hp⟩:=h
 obtain ⟨p0,p1,p2,rfl⟩:∃ p0 p1 p2,ps = [p0,p1,p2]:=by
  match ps,hl with
  | [p0, p1, p2], _ => exact ⟨p0, p1, p2, rfl⟩
 obtain ⟨a,rfl,_⟩:=ZT (hp 0 _ _ rfl rfl)
 obtain ⟨b,rfl,_⟩:=ZT (hp 1 _ _ rfl rfl)
 obtain ⟨n,rfl,hn⟩:=Zf9 (hp 2 _ _ rfl rfl)
 exact ⟨⟨a,b,n⟩,rfl,hn⟩
theorem Zss {d:Nat} {cs:List AV} (h:TyZ Tryz.prog (d+5) 145 cs):∃ m:Zci,cs=Zh m:=by
 rw [TyZ] at h
 simp only [Tryz.underlying145] at h
 obtain ⟨ps,rfl,hl,hp⟩:=h
 obtain ⟨p0,p1,rfl⟩:∃ p0 p1,ps = [p0,p1]:=by
  match ps,hl with
  | [p0, p1], _ => exact ⟨p0, p1, rfl⟩
 obtain ⟨a,rfl,_⟩:=ZT (hp 0 _ _ rfl rfl)
 obtain ⟨i,rfl⟩:=Zlr (hp 1 _ _ rfl rfl)
 exact ⟨⟨a,i⟩,rfl⟩
theorem Zxf {d:Nat} {cs:List AV} (h:TyZ Tryz.prog (d+5) 147 cs):∃ m:Ans,cs=Zx m:=by
 rw [TyZ] at h
 simp only [Tryz.underlying147] at h
 obtain ⟨ps,rfl,hl,hp⟩:=h
 obtain ⟨p0,p1,rfl⟩:∃ p0 p1,ps = [p0,p1]:=by
  match ps,hl with
  | [p0, p1], _ => exact ⟨p0, p1, rfl⟩
 obtain ⟨a,rfl,_⟩:=ZT (hp 0 _ _ rfl rfl)
 obtain ⟨b,rfl,_⟩:=Zrr (hp 1 _ _ rfl rfl)
 exact ⟨⟨a,b⟩,rfl⟩
theorem ZsR {d:Nat} {cs:List AV} (h:TyZ Tryz.prog (d+5) 81 cs):∃ m:Zes,cs=ZU m:=by
 rw [TyZ] at h
 simp only [Tryz.underlying81] at h
 obtain ⟨ps,rfl,hl,hp⟩:=h
 obtain ⟨p0,p1,rfl⟩:∃ p0 p1,ps = [p0,p1]:=by
  match ps,hl with
  | [p0, p1], _ => exact ⟨p0, p1, rfl⟩
 obtain ⟨a,rfl,_⟩:=ZT (hp 0 _ _ rfl rfl)
 obtain ⟨b,rfl,_⟩:=ZT (hp 1 _ _ rfl rfl)
 exact ⟨⟨a,b⟩,rfl⟩
theorem Zo2:Tryz.prog.cellsOf 33=11:=by kernel_rfl
theorem Zps:8≤Tryz.prog.bytesOf 33:=by
 have:decide (8≤Tryz.prog.bytesOf 33)=true:=by kernel_rfl
 exact of_decide_eq_true this
theorem Zpg {d:Nat} {cs:List AV} (h:TyZ Tryz.prog (d+5) 36 cs):∃ l:List YA,cs = [.slice false 11 (l.map ZY)]∧l.length < 2^44∧∀ x∈l,x.path.length < 2^44:=by
 rw [TyZ] at h
 simp only [Tryz.underlying36,Zo2] at h
 obtain ⟨xs,h1,h0,h2,h3⟩:=h
 obtain ⟨l,rfl,h5⟩:=Ye (f:=ZY) (p:=fun x=>x.path.length < 2^44) xs fun y hy=>by
  obtain ⟨i,hi,hj⟩:=Zf9 (h3 y hy)
  exact ⟨i,hi,hj⟩
 exact ⟨l,h1,ZoW (by simpa using h0) Zps,h5⟩
theorem ZqM:Tryz.prog.cellsOf 81=2:=by kernel_rfl
theorem Zpn:8≤Tryz.prog.bytesOf 81:=by
 have:decide (8≤Tryz.prog.bytesOf 81)=true:=by kernel_rfl
 exact of_decide_eq_true this
theorem Zql {d:Nat} {cs:List AV} (h:TyZ Tryz.prog (d+6) 37 cs):∃ l:List Zes,cs = [.slice false 2 (l.map ZU)]∧l.length < 2^44∧∀ x∈l,True:=by
 rw [TyZ] at h
 simp only [Tryz.underlying37,ZqM] at h
 obtain ⟨xs,h1,h0,h2,h3⟩:=h
 obtain ⟨l,rfl,h5⟩:=Ye (f:=ZU) (p:=fun x=>True) xs fun y hy=>by
  obtain ⟨i,hi⟩:=ZsR (h3 y hy)
  exact ⟨i,hi,trivial⟩
 exact ⟨l,h1,ZoW (by simpa using h0) Zpn,h5⟩
theorem ZpD:Tryz.prog.cellsOf 135=15:=by kernel_rfl
theorem Zpa:8≤Tryz.prog.bytesOf 135:=by
 have:decide (8≤Tryz.prog.bytesOf 135)=true:=by kernel_rfl
 exact of_decide_eq_true this
theorem ZoX {d:Nat} {cs:List AV} (h:TyZ Tryz.prog (d+6) 40 cs):∃ l:List Kw,cs = [.slice false 15 (l.map Zg)]∧l.length < 2^44∧∀ x∈l,x.node.path.length < 2^44:=by
 rw [TyZ] at h
 simp only [Tryz.underlying40,ZpD] at h
 obtain ⟨xs,h1,h0,h2,h3⟩:=h
 obtain ⟨l,rfl,h5⟩:=Ye (f:=Zg) (p:=fun x=>x.node.path.length < 2^44) xs fun y hy=>by
  obtain ⟨i,hi,hj⟩:=Ztn (h3 y hy)
  exact ⟨i,hi,hj⟩
 exact ⟨l,h1,ZoW (by simpa using h0) Zpa,h5⟩
theorem Zsn:Tryz.prog.cellsOf 35=28:=by kernel_rfl
theorem Zsb:8≤Tryz.prog.bytesOf 35:=by
 have:decide (8≤Tryz.prog.bytesOf 35)=true:=by kernel_rfl
 exact of_decide_eq_true this
theorem Ztt {d:Nat} {cs:List AV} (h:TyZ Tryz.prog (d+6) 41 cs):∃ l:List Req,cs = [.slice false 28 (l.map Zv)]∧l.length < 2^44∧∀ x∈l,x.src.path.length < 2^44∧∀ z∈Yv x.call,Rng z:=by
 rw [TyZ] at h
 simp only [Tryz.underlying41,Zsn] at h
 obtain ⟨xs,h1,h0,h2,h3⟩:=h
 obtain ⟨l,rfl,h5⟩:=Ye (f:=Zv) (p:=fun x=>x.src.path.length < 2^44∧∀ z∈Yv x.call,Rng z) xs fun y hy=>by
  obtain ⟨i,hi,hj⟩:=Zrt (h3 y hy)
  exact ⟨i,hi,hj⟩
 exact ⟨l,h1,ZoW (by simpa using h0) Zsb,h5⟩
theorem Zpd:Tryz.prog.cellsOf 145=4:=by kernel_rfl
theorem ZpP:8≤Tryz.prog.bytesOf 145:=by
 have:decide (8≤Tryz.prog.bytesOf 145)=true:=by kernel_rfl
 exact of_decide_eq_true this
theorem Zo4 {d:Nat} {cs:List AV} (h:TyZ Tryz.prog (d+6) 42 cs):∃ l:List Zci,cs = [.slice false 4 (l.map Zh)]∧l.length < 2^44∧∀ x∈l,True:=by
 rw [TyZ] at h
 simp only [Tryz.underlying42,Zpd] at h
 obtain ⟨xs,h1,h0,h2,h3⟩:=h
 obtain ⟨l,rfl,h5⟩:=Ye (f:=Zh) (p:=fun x=>True) xs fun y hy=>by
  obtain ⟨i,hi⟩:=Zss (h3 y hy)
  exact ⟨i,hi,trivial⟩
 exact ⟨l,h1,ZoW (by simpa using h0) ZpP,h5⟩
theorem Zr7:Tryz.prog.cellsOf 147=2:=by kernel_rfl
theorem ZsN:8≤Tryz.prog.bytesOf 147:=by
 have:decide (8≤Tryz.prog.bytesOf 147)=true:=by kernel_rfl
 exact of_decide_eq_true this
theorem ZsA {d:Nat} {cs:List AV} (h:TyZ Tryz.prog (d+6) 43 cs):∃ l:List Ans,cs = [.slice false 2 (l.map Zx)]∧l.length < 2^44∧∀ x∈l,True:=by
 rw [TyZ] at h
 simp only [Tryz.underlying43,Zr7] at h
 obtain ⟨xs,h1,h0,h2,h3⟩:=h
 obtain ⟨l,rfl,h5⟩:=Ye (f:=Zx) (p:=fun x=>True) xs fun y hy=>by
  obtain ⟨i,hi⟩:=Zxf (h3 y hy)
  exact ⟨i,hi,trivial⟩
 exact ⟨l,h1,ZoW (by simpa using h0) ZsN,h5⟩
theorem ZlE:Tryz.prog.cellsOf 71=13:=by kernel_rfl
theorem Zl9:8≤Tryz.prog.bytesOf 71:=by
 have:decide (8≤Tryz.prog.bytesOf 71)=true:=by kernel_rfl
 exact of_decide_eq_true this
theorem ZlQ {d:Nat} {cs:List AV} (h:TyZ Tryz.prog (d+6) 44 cs):∃ l:List ZI,cs = [.slice false 13 (l.map Ze)]∧l.length < 2^44∧∀ x∈l,x.node.path.length < 2^44:=by
 rw [TyZ] at h
 simp only [Tryz.underlying44,ZlE] at h
 obtain ⟨xs,h1,h0,h2,h3⟩:=h
 obtain ⟨l,rfl,h5⟩:=Ye (f:=Ze) (p:=fun x=>x.node.path.length < 2^44) xs fun y hy=>by
  obtain ⟨i,hi,hj⟩:=Zqe (h3 y hy)
  exact ⟨i,hi,hj⟩
 exact ⟨l,h1,ZoW (by simpa using h0) Zl9,h5⟩
structure JV.Sized (s:JV):Prop where
 slots:s.slots.length < 2^44
 pending:s.pending.length < 2^44
 marks:s.marks.length < 2^44
 answers:s.answers.length < 2^44
 entries:s.entries.length < 2^44
 commits:s.commits.length < 2^44
 slot:∀ x∈s.slots,x.node.path.length < 2^44
 req:∀ x∈s.pending,x.src.path.length < 2^44∧∀ z∈Yv x.call,Rng z
 entry:∀ x∈s.entries,x.node.path.length < 2^44
structure Wf.Sized (v:Wf):Prop where
 members:v.members.length < 2^44
 owners:v.owners.length < 2^44
structure JF.Sized (r:JF):Prop where
 view:r.view.Sized
 state:r.state.Sized
 next:r.next.Sized
 proposal:r.proposal.Sized
structure Msg.Sized (m:Msg):Prop where
 req:m.req.src.path.length < 2^44
 call:∀ z∈Yv m.req.call,Rng z
 ids:m.ids.length < 2^44
 nodes:m.nodes.length < 2^44
 node:∀ x∈m.nodes,x.path.length < 2^44
 cores:m.cores.length < 2^44
 moves:m.moves.length < 2^44
 next:m.next.Sized
 state:m.state.Sized
 report:m.report.Sized
theorem Zb9 {n:Nat} (h:n < 2^44):n < 2^63:=by omega
theorem JV.Sized.fits {s:JV} (h:s.Sized):s.Fits:=⟨Zb9 h.slots,Zb9 h.pending,Zb9 h.marks,Zb9 h.answers,Zb9 h.entries,Zb9 h.commits,fun x hx=>Zb9 (h.slot x hx),fun x hx=>Zb9 (h.req x hx).1,fun x hx=>Zb9 (h.entry x hx)⟩
theorem Wf.Sized.fits {v:Wf} (h:v.Sized):v.Fits:=⟨Zb9 h.members,Zb9 h.owners⟩
theorem JF.Sized.fits {r:JF} (h:r.Sized):r.Fits:=⟨h.view.fits,h.state.fits,h.next.fits,h.proposal.fits⟩
theorem Msg.Sized.fits {m:Msg} (h:m.Sized):m.Fits:=⟨Zb9 h.req,Zb9 h.ids,Zb9 h.nodes,fun x hx=>Zb9 (h.node x hx),Zb9 h.cores,Zb9 h.moves,h.next.fits,h.state.fits,h.report.fits⟩
theorem Zi1 {d:Nat} {cs:List AV} (h:TyZ Tryz.prog (d+3) 39 cs):∃ v:Wf,cs=Zq0 v∧v.Sized:=by
 rw [TyZ] at h
 simp only [Tryz.underlying39] at h
 obtain ⟨ps,rfl,hl,hp⟩:=h
 obtain ⟨p0,p1,p2,rfl⟩:∃ p0 p1 p2,ps = [p0,p1,p2]:=by
  match ps,hl with
  | [p0, p1, p2], _ => exact ⟨p0, p1, p2, rfl⟩
 obtain ⟨n,rfl,_⟩:=ZT (hp 0 _ _ rfl rfl)
 obtain ⟨a,rfl,ha,_⟩:=ZiT (hp 1 _ _ rfl rfl)
 obtain ⟨b,rfl,hb,_⟩:=ZiT (hp 2 _ _ rfl rfl)
 exact ⟨⟨n,a,b⟩,rfl,⟨ha,hb⟩⟩
theorem ZfD {d:Nat} {cs:List AV} (h:TyZ Tryz.prog (d+7) 46 cs):∃ s:JV,cs=Zkb s∧s.Sized:=by
 rw [TyZ] at h
 simp only [Tryz.underlying46] at h
 obtain ⟨ps,rfl,hl,hp⟩:=h
 obtain ⟨p0,p1,p2,p3,p4,p5,rfl⟩:∃ p0 p1 p2 p3 p4 p5,ps = [p0,p1,p2,p3,p4,p5]:=by
  match ps,hl with
  | [p0, p1, p2, p3, p4, p5], _ => exact ⟨p0, p1, p2, p3, p4, p5, rfl⟩
 obtain ⟨a,rfl,a1,a2⟩:=ZoX (hp 0 _ _ rfl rfl)
 obtain ⟨b,rfl,b1,b2⟩:=Ztt (hp 1 _ _ rfl rfl)
 obtain ⟨c,rfl,c1,_⟩:=Zo4 (hp 2 _ _ rfl rfl)
 obtain ⟨e,rfl,e1,_⟩:=ZsA (hp 3 _ _ rfl rfl)
 obtain ⟨f,rfl,f1,f2⟩:=ZlQ (hp 4 _ _ rfl rfl)
 obtain ⟨g,rfl,g1,_⟩:=ZnF (hp 5 _ _ rfl rfl)
 exact ⟨⟨a,b,c,e,f,g⟩,rfl,⟨a1,b1,c1,e1,f1,g1,a2,b2,f2⟩⟩
theorem Zm0 {d:Nat} {cs:List AV} (h:TyZ Tryz.prog (d+8) 48 cs):∃ r:JF,cs=ZiL r∧r.Sized:=by
 rw [TyZ] at h
 simp only [Tryz.underlying48] at h
 obtain ⟨ps,rfl,hl,hp⟩:=h
 obtain ⟨p0,p1,p2,p3,p4,p5,rfl⟩:∃ p0 p1 p2 p3 p4 p5,ps = [p0,p1,p2,p3,p4,p5]:=by
  match ps,hl with
  | [p0, p1, p2, p3, p4, p5], _ => exact ⟨p0, p1, p2, p3, p4, p5, rfl⟩
 obtain ⟨n,rfl,_⟩:=ZT (hp 0 _ _ rfl rfl)
 obtain ⟨v,rfl,hv⟩:=Zi1 (hp 1 _ _ rfl rfl)
 obtain ⟨s,rfl,hs⟩:=ZfD (hp 2 _ _ rfl rfl)
 obtain ⟨b,rfl⟩:=ZdL (hp 3 _ _ rfl rfl)
 obtain ⟨w,rfl,hw⟩:=Zi1 (hp 4 _ _ rfl rfl)
 obtain ⟨t,rfl,ht⟩:=ZfD (hp 5 _ _ rfl rfl)
 exact ⟨⟨n,v,s,b,w,t⟩,by simp [ZiL],⟨hv,hs,hw,ht⟩⟩
theorem Zvd {d:Nat} {cs:List AV} (h:TyZ Tryz.prog (d+10) 50 cs):∃ m:Msg,cs=ZyH m∧m.Sized:=by
 rw [TyZ] at h
 simp only [Tryz.underlying50] at h
 obtain ⟨ps,rfl,hl,hp⟩:=h
 obtain ⟨p0,p1,p2,p3,p4,p5,p6,p7,p8,p9,p10,p11,p12,p13,p14,p15,p16,p17,p18,rfl⟩:∃ p0 p1 p2 p3 p4 p5 p6 p7 p8 p9 p10 p11 p12 p13 p14 p15 p16 p17 p18,ps = [p0,p1,p2,p3,p4,p5,p6,p7,p8,p9,p10,p11,p12,p13,p14,p15,p16,p17,p18]:=by
  match ps,hl with
  | [p0, p1, p2, p3, p4, p5, p6, p7, p8, p9, p10, p11, p12, p13, p14, p15, p16, p17, p18], _ => exact ⟨p0, p1, p2, p3, p4, p5, p6, p7, p8, p9, p10, p11, p12, p13, p14, p15, p16, p17, p18, rfl⟩
 obtain ⟨k0,rfl,_⟩:=ZT (hp 0 _ _ rfl rfl)
 obtain ⟨k1,rfl,_⟩:=ZT (hp 1 _ _ rfl rfl)
 obtain ⟨k2,rfl,_⟩:=ZT (hp 2 _ _ rfl rfl)
 obtain ⟨k3,rfl,_⟩:=ZT (hp 3 _ _ rfl rfl)
 obtain ⟨k4,rfl,_⟩:=ZT (hp 4 _ _ rfl rfl)
 obtain ⟨k5,rfl,_⟩:=ZT (hp 5 _ _ rfl rfl)
 obtain ⟨k6,rfl,_⟩:=ZT (hp 6 _ _ rfl rfl)
 obtain ⟨op,rfl⟩:=Zlr (hp 7 _ _ rfl rfl)
 obtain ⟨e,rfl,_⟩:=Zrr (hp 8 _ _ rfl rfl)
 obtain ⟨st,rfl⟩:=ZdL (hp 9 _ _ rfl rfl)
 obtain ⟨r,rfl,hr,hc⟩:=Zrt (hp 10 _ _ rfl rfl)
 obtain ⟨l1,rfl,h1,_⟩:=ZnF (hp 11 _ _ rfl rfl)
 obtain ⟨l2,rfl,h2,h2b⟩:=Zpg (hp 12 _ _ rfl rfl)
 obtain ⟨l3,rfl,h3,_⟩:=ZiT (hp 13 _ _ rfl rfl)
 obtain ⟨l4,rfl,h4,_⟩:=Zql (hp 14 _ _ rfl rfl)
 obtain ⟨bs,rfl,_⟩:=ZT (hp 15 _ _ rfl rfl)
 obtain ⟨nx,rfl,hn⟩:=Zi1 (hp 16 _ _ rfl rfl)
 obtain ⟨ss,rfl,hs⟩:=ZfD (hp 17 _ _ rfl rfl)
 obtain ⟨rp,rfl,hp2⟩:=Zm0 (hp 18 _ _ rfl rfl)
 exact ⟨⟨k0,k1,k2,k3,k4,k5,k6,op,e,st,r,l1,l2,l3,l4,bs,nx,ss,rp⟩,by simp [ZyH,idc],⟨hr,hc,h1,h2,h2b,h3,h4,hn,hs,hp2⟩⟩
end Go.Proofs.YtjldbnbdcmfbmaaGreat
end

section
namespace Go.Proofs.YtjldbnbdcmfbmaaGreat
open Go Go.AM
set_option linter.unusedSimpArgs false
set_option linter.unusedVariables false
set_option maxRecDepth 100000
theorem s20 (s:JV) (h:s.Fits):∃ b,g20 (s.slots.map Zg) (s.pending.map Zv) (s.marks.map Zh) (s.answers.map Zx) (s.entries.map Ze) (Zb s.commits)=some b:=by
 have l0:∀ acc,∃ b,ZiY Zr (s.slots.map Zg) (s.pending.map Zv) (s.marks.map Zh) (s.answers.map Zx) (s.entries.map Ze) (Zb s.commits) acc 0=some b:=by
  intro acc
  refine ZfH (F:=fun k acc i=>ZiY k (s.slots.map Zg) (s.pending.map Zv) (s.marks.map Zh) (s.answers.map Zx) (s.entries.map Ze) (Zb s.commits) acc i) h.entries (fun k acc i hi=>?_) (fun k acc i hi=>?_) acc
  ·refine ⟨iop .add .i64 acc (List.length (Zb s.entries[i].node.path):Int),?_⟩
   show ZiY (k+1) _ _ _ _ _ _ _ _=_
   rw [ZkK,List.length_map,if_pos (ZQ hi)]
   refine (Zq hi _).trans ?_
   simp only [J7,Zmk,Zbt,d2,d4,d8,d16]
   rw [ZP hi h.entries]
  ·show ∃ r,ZiY (k+1) _ _ _ _ _ _ _ _=some r
   rw [ZkK,List.length_map,if_neg (ZR hi)]
   exact ⟨_,rfl⟩
 have l1:∀ acc,∃ b,ZiR Zr (s.slots.map Zg) (s.pending.map Zv) (s.marks.map Zh) (s.answers.map Zx) (s.entries.map Ze) (Zb s.commits) acc 0=some b:=by
  intro acc
  refine ZfH (F:=fun k acc i=>ZiR k (s.slots.map Zg) (s.pending.map Zv) (s.marks.map Zh) (s.answers.map Zx) (s.entries.map Ze) (Zb s.commits) acc i) h.pending (fun k acc i hi=>?_) (fun k acc i hi=>?_) acc
  ·refine ⟨iop .add .i64 acc (List.length (Zb s.pending[i].src.path):Int),?_⟩
   show ZiR (k+1) _ _ _ _ _ _ _ _=_
   rw [ZkD,List.length_map,if_pos (ZQ hi)]
   refine (JC hi _).trans ?_
   simp only [J7,Zmk,Zbt,d2,d4,d8,d16]
   rw [ZP hi h.pending]
  ·show ∃ r,ZiR (k+1) _ _ _ _ _ _ _ _=some r
   rw [ZkD,List.length_map,if_neg (ZR hi)]
   exact l0 acc
 have l2:∀ acc,∃ b,ZiO Zr (s.slots.map Zg) (s.pending.map Zv) (s.marks.map Zh) (s.answers.map Zx) (s.entries.map Ze) (Zb s.commits) acc 0=some b:=by
  intro acc
  refine ZfH (F:=fun k acc i=>ZiO k (s.slots.map Zg) (s.pending.map Zv) (s.marks.map Zh) (s.answers.map Zx) (s.entries.map Ze) (Zb s.commits) acc i) h.slots (fun k acc i hi=>?_) (fun k acc i hi=>?_) acc
  ·refine ⟨iop .add .i64 acc (List.length (Zb s.slots[i].node.path):Int),?_⟩
   show ZiO (k+1) _ _ _ _ _ _ _ _=_
   rw [ZjZ,List.length_map,if_pos (ZQ hi)]
   refine (Jk hi _).trans ?_
   simp only [J7,Zmk,Zbt,d2,d4,d8,d16]
   rw [ZP hi h.slots]
  ·show ∃ r,ZiO (k+1) _ _ _ _ _ _ _ _=some r
   rw [ZjZ,List.length_map,if_neg (ZR hi)]
   exact l1 acc
 rw [Zq6]
 split
 ·exact ⟨_,rfl⟩
 ·exact l2 _
end Go.Proofs.YtjldbnbdcmfbmaaGreat
end

section
namespace Go.Proofs.YtjldbnbdcmfbmaaGreat
open Go Go.AM
set_option linter.unusedSimpArgs false
set_option linter.unusedVariables false
set_option maxRecDepth 100000
structure JV.Short (s:JV):Prop where
 slots:s.slots.length≤2000000
 pending:s.pending.length≤2000000
 marks:s.marks.length≤2000000
 answers:s.answers.length≤2000000
 entries:s.entries.length≤2000000
 commits:s.commits.length≤2000000
theorem ZCa (s:JV) (h:s.Sized):∃ b,g20 (s.slots.map Zg) (s.pending.map Zv) (s.marks.map Zh) (s.answers.map Zx) (s.entries.map Ze) (Zb s.commits)=some b∧(b=true→s.Short):=by
 obtain ⟨b,hb⟩:=s20 s h.fits
 refine ⟨b,hb,fun ht=>?_⟩
 have a1:=h.slots
 have a2:=h.pending
 have a3:=h.marks
 have a4:=h.answers
 have a5:=h.entries
 have a6:=h.commits
 rw [Zq6] at hb
 simp only [List.length_map,ZJ] at hb
 rw [JA (a:=(s.slots.length:Int)) (b:=(s.pending.length:Int)) (by omega) (by omega),JA (b:=(s.marks.length:Int)) (by omega) (by omega),JA (b:=(s.answers.length:Int)) (by omega) (by omega),JA (b:=(s.entries.length:Int)) (by omega) (by omega),JA (b:=(s.commits.length:Int)) (by omega) (by omega)] at hb
 by_cases hc:(cop .gtr ((s.slots.length:Int)+s.pending.length+s.marks.length+s.answers.length+s.entries.length+s.commits.length) 80)=true
 ·rw [if_pos hc,ht] at hb
  cases hb
 ·simp only [CQ] at hc
  exact ⟨by omega,by omega,by omega,by omega,by omega,by omega⟩
structure Msg.Short (m:Msg):Prop where
 ids:m.ids.length≤2000000
 nodes:m.nodes.length≤2000000
 cores:m.cores.length≤2000000
 moves:m.moves.length≤2000000
 nm:m.next.members.length≤2000000
 no:m.next.owners.length≤2000000
 rvm:m.report.view.members.length≤2000000
 rvo:m.report.view.owners.length≤2000000
 rnm:m.report.next.members.length≤2000000
 rno:m.report.next.owners.length≤2000000
 state:m.state.Short
 rs:m.report.state.Short
 rp:m.report.proposal.Short
theorem s8 (m:Msg) (h:m.Sized):∃ b,g8 m.kind m.view m.frm m.to m.round m.region m.slot m.op.core m.op.op m.op.part m.err m.settled m.req.id.core m.req.id.op m.req.id.part m.req.call.kind m.req.call.slot m.req.call.dest m.req.call.core m.req.call.mask m.req.call.object m.req.call.bits m.req.call.level m.req.call.offset m.req.call.count m.req.call.index m.req.call.addr m.req.region m.req.width m.req.src.id.core m.req.src.id.op m.req.src.id.part (Zb m.req.src.path) m.req.src.cap.kind m.req.src.cap.base m.req.src.cap.bits m.req.src.cap.rights m.req.src.cap.width m.req.src.cap.level m.req.src.cap.device (Zb m.ids) (m.nodes.map ZY) (Za m.cores) (m.moves.map ZU) m.base m.next.number (Za m.next.members) (Za m.next.owners) (m.state.slots.map Zg) (m.state.pending.map Zv) (m.state.marks.map Zh) (m.state.answers.map Zx) (m.state.entries.map Ze) (Zb m.state.commits) m.report.core m.report.view.number (Za m.report.view.members) (Za m.report.view.owners) (m.report.state.slots.map Zg) (m.report.state.pending.map Zv) (m.report.state.marks.map Zh) (m.report.state.answers.map Zx) (m.report.state.entries.map Ze) (Zb m.report.state.commits) m.report.ready m.report.next.number (Za m.report.next.members) (Za m.report.next.owners) (m.report.proposal.slots.map Zg) (m.report.proposal.pending.map Zv) (m.report.proposal.marks.map Zh) (m.report.proposal.answers.map Zx) (m.report.proposal.entries.map Ze) (Zb m.report.proposal.commits)=some b∧(b=true→m.Short):=by
 obtain ⟨b1,e1,f1⟩:=ZCa m.state h.state
 obtain ⟨b2,e2,f2⟩:=ZCa m.report.state h.report.state
 obtain ⟨b3,e3,f3⟩:=ZCa m.report.proposal h.report.proposal
 have l0:=ZW (F:=fun k i=>Zv6 k m.kind m.view m.frm m.to m.round m.region m.slot m.op.core m.op.op m.op.part m.err m.settled m.req.id.core m.req.id.op m.req.id.part m.req.call.kind m.req.call.slot m.req.call.dest m.req.call.core m.req.call.mask m.req.call.object m.req.call.bits m.req.call.level m.req.call.offset m.req.call.count m.req.call.index m.req.call.addr m.req.region m.req.width m.req.src.id.core m.req.src.id.op m.req.src.id.part (Zb m.req.src.path) m.req.src.cap.kind m.req.src.cap.base m.req.src.cap.bits m.req.src.cap.rights m.req.src.cap.width m.req.src.cap.level m.req.src.cap.device (Zb m.ids) (m.nodes.map ZY) (Za m.cores) (m.moves.map ZU) m.base m.next.number (Za m.next.members) (Za m.next.owners) (m.state.slots.map Zg) (m.state.pending.map Zv) (m.state.marks.map Zh) (m.state.answers.map Zx) (m.state.entries.map Ze) (Zb m.state.commits) m.report.core m.report.view.number (Za m.report.view.members) (Za m.report.view.owners) (m.report.state.slots.map Zg) (m.report.state.pending.map Zv) (m.report.state.marks.map Zh) (m.report.state.answers.map Zx) (m.report.state.entries.map Ze) (Zb m.report.state.commits) m.report.ready m.report.next.number (Za m.report.next.members) (Za m.report.next.owners) (m.report.proposal.slots.map Zg) (m.report.proposal.pending.map Zv) (m.report.proposal.marks.map Zh) (m.report.proposal.answers.map Zx) (m.report.proposal.entries.map Ze) (Zb m.report.proposal.commits) i) (n:=m.nodes.length) (fin:=some (b1&&(b2&&b3))) (bad:=some false) (atB (fun x:YA=>!cop .gtr (x.path.length:Int) 30) m.nodes) (Zb9 h.nodes) 0 (by omega)
  (fun k i _ hi=>by
   refine (Znj ..).trans ?_
   rw [List.length_map,if_pos (ZQ hi)]
   refine (Ys hi _).trans ?_
   rw [ZP hi (Zb9 h.nodes),Ji _ hi]
   show (if (cop .gtr (List.length (Zb m.nodes[i].path):Int) 30)=true then some false else Zv6 k m.kind m.view m.frm m.to m.round m.region m.slot m.op.core m.op.op m.op.part m.err m.settled m.req.id.core m.req.id.op m.req.id.part m.req.call.kind m.req.call.slot m.req.call.dest m.req.call.core m.req.call.mask m.req.call.object m.req.call.bits m.req.call.level m.req.call.offset m.req.call.count m.req.call.index m.req.call.addr m.req.region m.req.width m.req.src.id.core m.req.src.id.op m.req.src.id.part (Zb m.req.src.path) m.req.src.cap.kind m.req.src.cap.base m.req.src.cap.bits m.req.src.cap.rights m.req.src.cap.width m.req.src.cap.level m.req.src.cap.device (Zb m.ids) (m.nodes.map ZY) (Za m.cores) (m.moves.map ZU) m.base m.next.number (Za m.next.members) (Za m.next.owners) (m.state.slots.map Zg) (m.state.pending.map Zv) (m.state.marks.map Zh) (m.state.answers.map Zx) (m.state.entries.map Ze) (Zb m.state.commits) m.report.core m.report.view.number (Za m.report.view.members) (Za m.report.view.owners) (m.report.state.slots.map Zg) (m.report.state.pending.map Zv) (m.report.state.marks.map Zh) (m.report.state.answers.map Zx) (m.report.state.entries.map Ze) (Zb m.report.state.commits) m.report.ready m.report.next.number (Za m.report.next.members) (Za m.report.next.owners) (m.report.proposal.slots.map Zg) (m.report.proposal.pending.map Zv) (m.report.proposal.marks.map Zh) (m.report.proposal.answers.map Zx) (m.report.proposal.entries.map Ze) (Zb m.report.proposal.commits) ((i+1:Nat):Int))=_
   rw [ZJ]
   cases cop .gtr (m.nodes[i].path.length:Int) 30<;>rfl)
  (fun k i hi=>by
   refine (Znj ..).trans ?_
   rw [List.length_map,if_neg (ZR hi),e1,e2,e3]
   exact Js _ (Js _ rfl))
 have a1:=h.ids
 have a2:=h.nodes
 have a3:=h.cores
 have a4:=h.moves
 have a5:=h.next.members
 have a6:=h.next.owners
 have a7:=h.report.view.members
 have a8:=h.report.view.owners
 have a9:=h.report.next.members
 have a10:=h.report.next.owners
 rw [ZB2]
 simp only [List.length_map,ZJ,ZB]
 rw [JA (a:=(m.ids.length:Int)) (b:=(m.nodes.length:Int)) (by omega) (by omega),JA (b:=(m.cores.length:Int)) (by omega) (by omega),JA (b:=(m.moves.length:Int)) (by omega) (by omega),JA (b:=(m.next.members.length:Int)) (by omega) (by omega),JA (b:=(m.next.owners.length:Int)) (by omega) (by omega),JA (b:=(m.report.view.members.length:Int)) (by omega) (by omega),JA (b:=(m.report.view.owners.length:Int)) (by omega) (by omega),JA (b:=(m.report.next.members.length:Int)) (by omega) (by omega),JA (b:=(m.report.next.owners.length:Int)) (by omega) (by omega)]
 by_cases hc:(cop .gtr ((m.ids.length:Int)+m.nodes.length+m.cores.length+m.moves.length+m.next.members.length+m.next.owners.length+m.report.view.members.length+m.report.view.owners.length+m.report.next.members.length+m.report.next.owners.length) 300)=true
 ·exact ⟨false,if_pos hc,fun h=>by cases h⟩
 ·rw [if_neg hc]
  simp only [CQ] at hc
  by_cases hp:(cop .gtr (m.req.src.path.length:Int) 30)=true
  ·exact ⟨false,if_pos hp,fun h=>by cases h⟩
  ·rw [if_neg hp]
   refine ⟨_,Eq.trans l0 (show _=some ((List.range' 0 (m.nodes.length-0)).all (atB (fun x:YA=>!cop .gtr (x.path.length:Int) 30) m.nodes)&&(b1&&(b2&&b3))) from ?_),fun hb=>?_⟩
   ·cases (List.range' 0 (m.nodes.length-0)).all (atB (fun x:YA=>!cop .gtr (x.path.length:Int) 30) m.nodes)<;>rfl
   ·simp only [Bool.and_eq_true] at hb
    exact ⟨by omega,by omega,by omega,by omega,by omega,by omega,by omega,by omega,by omega,by omega,f1 hb.2.1,f2 hb.2.2.1,f3 hb.2.2.2⟩
theorem n63 {z a:Int} (h0:0≤z) (h1:z≤1099511627776):N63 z:=by
 have:(2:Int)^63=9223372036854775808:=by decide
 exact ⟨h0,by omega⟩
theorem ZaW {i:Id} (h:Zbf i=true):i.Small:=by
 simp only [Zbf,Bool.and_eq_true] at h
 exact Zhg h.1
theorem Zpp {z:Int} (h:Z3 z=true):N63 z:=by have:=of_decide_eq_true h;exact n63 (a:=0) (by omega) (by omega)
theorem ZbW {z:Int} (h:Zt z=true):N63 z:=by have:=of_decide_eq_true h;exact n63 (a:=0) (by omega) (by omega)
theorem Zq3 {z:Int} (h:Jz z=true):N63 z:=by have:=of_decide_eq_true h;exact n63 (a:=0) (by omega) (by omega)
theorem ZwX {z:Int} (h:Zb1 z=true):N63 z:=by have:=of_decide_eq_true h;exact n63 (a:=0) (by omega) (by omega)
theorem Zqb {z:Int} (h:JB z=true):N63 z:=by have:=of_decide_eq_true h;exact n63 (a:=0) (by omega) (by omega)
theorem Zdr:N63 0:=⟨by decide,by decide⟩
theorem Zk6 {r:Req} (hp:r.src.path.length < 2^44) (hc:∀ z∈Yv r.call,Rng z) (h:KC r=true):r.Good:=by
 simp only [KC,Bool.and_eq_true,decide_eq_true_eq] at h
 obtain ⟨⟨⟨⟨h1,h2⟩,h3⟩,h4⟩,h5⟩:=h
 have hr:=Zpp h3
 have h63:(2:Int)^63=9223372036854775808:=by decide
 exact ⟨ZaW h1,hc,hr.1,hr.2,by omega,by omega,Zb9 hp⟩
theorem ZqQ {r:Req} (hp:r.src.path.length < 2^44) (hc:∀ z∈Yv r.call,Rng z) (h:Zri r=true):r.Good:=by
 simp only [Zri,Bool.and_eq_true,decide_eq_true_eq] at h
 obtain ⟨⟨⟨⟨h1,h2⟩,h3⟩,h4⟩,h5⟩:=h
 have h63:(2:Int)^63=9223372036854775808:=by decide
 exact ⟨by rw [h1];exact Zf5,hc,by omega,by omega,by omega,by omega,Zb9 hp⟩
theorem ZbD {s:JV} (hz:s.Sized) (hs:s.Short) (h:Yx s=true):s.Good:=by
 simp only [Yx,Bool.and_eq_true,List.all_eq_true] at h
 obtain ⟨⟨⟨⟨⟨h1,h2⟩,h3⟩,h4⟩,h5⟩,h6⟩:=h
 have a1:=hs.slots
 have a2:=hs.pending
 have a3:=hs.marks
 have a4:=hs.answers
 have a5:=hs.entries
 have a6:=hs.commits
 have hslot:s.slots.all ZbF=true:=by
  simp only [Vk,Bool.and_eq_true] at h1
  rw [Zje,Bool.and_eq_true,ZbR] at h1
  exact h1.2.1
 rw [List.all_eq_true] at hslot
 refine ⟨by omega,by omega,by omega,by omega,by omega,by omega,fun x hx=>?_,fun x hx=>Zk6 (hz.req x hx).1 (hz.req x hx).2 (h2.1 x hx),fun x hx=>?_,fun x hx=>?_,fun x hx=>?_,fun x hx=>ZaW (h6 x hx)⟩
 ·have h:=hslot x hx
  simp only [ZbF,Bool.and_eq_true,decide_eq_true_eq] at h
  obtain ⟨ho,hi⟩:=h
  refine ⟨Zb9 (hz.slot x hx),n63 (a:=0) (by omega) (by omega),?_⟩
  split at hi
  ·simp only [Bool.and_eq_true,decide_eq_true_eq] at hi
   rw [hi.2];exact Zf5
  ·simp only [Bool.and_eq_true,Bool.or_eq_true,decide_eq_true_eq] at hi
   rcases hi.2 with e | e
   ·rw [e];exact Zf5
   ·exact ZaW e
 ·have h:=h3.1 x hx
  simp only [Y1,Bool.and_eq_true] at h
  exact ⟨Zpp h.1,ZaW h.2⟩
 ·have h:=h4.1 x hx
  simp only [V1,Bool.and_eq_true,decide_eq_true_eq] at h
  exact ⟨n63 (a:=0) (by omega) (by omega),ZwX h.2⟩
 ·have h:=h5.1 x hx
  simp only [VZ,Bool.and_eq_true] at h
  exact ⟨ZbW h.1.1,Zq3 h.1.2,Zb9 (hz.entry x hx)⟩
theorem KZ {α:Type} {l:List α} (h:l.length=0) {p:α→Prop} : ∀ x∈l,p x:=by
 rw [List.length_eq_zero_iff.1 h];intro x hx;cases hx
theorem Zbo {s:JV} (hs:s.Short) (h:V9 s=true):s.Good:=by
 simp only [V9,Bool.and_eq_true,decide_eq_true_eq] at h
 obtain ⟨⟨⟨⟨⟨h1,h2⟩,h3⟩,h4⟩,h5⟩,h6⟩:=h
 exact ⟨by omega,by omega,by omega,by omega,by omega,by omega,KZ h1,KZ h2,KZ h3,KZ h4,KZ h5,KZ h6⟩
theorem ZcE {v:Wf} (h:KY v=true) (hm:v.members.length≤2000000) (ho:v.owners.length≤2000000):v.Good:=by
 simp only [KY,Bool.and_eq_true,decide_eq_true_eq] at h
 obtain ⟨⟨⟨⟨h1,h2⟩,h3⟩,h4⟩,h5⟩:=h
 rw [Zje,Bool.and_eq_true,ZbR] at h4
 exact ⟨Zqb h1,by omega,by omega,fun x hx=>ZbW (List.all_eq_true.1 h4.1 x hx),fun x hx=>ZbW (List.all_eq_true.1 h5 x hx)⟩
theorem ZcG {v:Wf} (h:ZbZ v=true):v.Good:=by
 simp only [ZbZ,Bool.and_eq_true,decide_eq_true_eq] at h
 obtain ⟨⟨h1,h2⟩,h3⟩:=h
 exact ⟨by rw [h1];exact Zdr,by omega,by omega,KZ h2,KZ h3⟩
theorem ZqK {m:Msg} (hz:m.Sized) (hs:m.Short) (h:Jn m=true):m.Good:=by
 simp only [Jn,headOk,Bool.and_eq_true] at h
 obtain ⟨⟨⟨⟨k1,k2⟩,k3⟩,k4⟩,hf,hr⟩:=h
 have hk:=of_decide_eq_true k1
 have fo:∀ f,f < 15→Zi m f=true∨zf m f=true:=by
  intro f hf'
  by_cases hc:f∈kf m.kind.toNat
  ·exact .inl (List.all_eq_true.1 hf f hc)
  ·exact .inr (JG hr f hf' (by simpa using hc))
 have i0:=hs.ids
 have i1:=hs.nodes
 have i2:=hs.cores
 have i3:=hs.moves
 refine ⟨n63 (a:=0) (by omega) (by omega),Zqb k2,ZbW k3,ZbW k4,?_,?_,?_,?_,?_,?_,by omega,?_,by omega,fun x hx=>Zb9 (hz.node x hx),by omega,?_,by omega,?_,?_,?_,?_,?_⟩
 ·rcases fo 8 (by omega) with e | e
  ·exact Zqb e
  ·rw [show m.round=0 from of_decide_eq_true e];exact Zdr
 ·rcases fo 0 (by omega) with e | e
  ·exact Zpp e
  ·rw [show m.region=0 from of_decide_eq_true e];exact Zdr
 ·rcases fo 6 (by omega) with e | e
  ·exact Zq3 e
  ·rw [show m.slot=0 from of_decide_eq_true e];exact Zdr
 ·rcases fo 2 (by omega) with e | e
  ·exact ZaW e
  ·rw [show m.op=zid from of_decide_eq_true e];exact Zf5
 ·rcases fo 3 (by omega) with e | e
  ·exact ZwX e
  ·rw [show m.err=0 from of_decide_eq_true e];exact Zdr
 ·rcases fo 1 (by omega) with e | e
  ·exact Zk6 hz.req hz.call e
  ·exact ZqQ hz.req hz.call e
 ·rcases fo 7 (by omega) with e | e
  ·have e:(decide (m.ids.length≤64)&&m.ids.all Vw)=true:=e
   simp only [Bool.and_eq_true,List.all_eq_true] at e
   exact fun x hx=>Zhg (e.2 x hx)
  ·exact KZ (of_decide_eq_true e)
 ·rcases fo 9 (by omega) with e | e
  ·have e:(m.cores.all Zt&&KU ltI m.cores)=true:=e
   simp only [Bool.and_eq_true,List.all_eq_true] at e
   exact fun x hx=>ZbW (e.1 x hx)
  ·exact KZ (of_decide_eq_true e)
 ·rcases fo 14 (by omega) with e | e
  ·have e:(decide (m.moves.length≤16)&&m.moves.all KV)=true:=e
   simp only [Bool.and_eq_true,List.all_eq_true,KV] at e
   exact fun x hx=>⟨Zpp (e.2 x hx).1,ZbW (e.2 x hx).2⟩
  ·exact KZ (of_decide_eq_true e)
 ·rcases fo 11 (by omega) with e | e
  ·exact Zqb e
  ·rw [show m.base=0 from of_decide_eq_true e];exact Zdr
 ·rcases fo 12 (by omega) with e | e
  ·exact ZcE e hs.nm hs.no
  ·exact ZcG e
 ·rcases fo 13 (by omega) with e | e
  ·exact ZbD hz.state hs.state e
  ·exact Zbo hs.state e
 ·rcases fo 10 (by omega) with e | e
  ·have e:ZfW m.report=true:=e
   simp only [ZfW,Bool.and_eq_true] at e
   exact ⟨ZbW e.1.1.1.1,ZcE e.1.1.1.2 hs.rvm hs.rvo,ZbD hz.report.state hs.rs e.1.1.2,ZcE e.1.2 hs.rnm hs.rno,ZbD hz.report.proposal hs.rp e.2⟩
  ·have e:Wp m.report=true:=e
   simp only [Wp,Bool.and_eq_true,decide_eq_true_eq] at e
   exact ⟨by rw [e.1.1.1.1.1];exact Zdr,ZcG e.1.1.1.1.2,Zbo hs.rs e.1.1.1.2,ZcG e.1.2,Zbo hs.rp e.2⟩
end Go.Proofs.YtjldbnbdcmfbmaaGreat
end

section
namespace Go.Proofs.YtjldbnbdcmfbmaaGreat
open Go Go.AM
set_option linter.unusedSimpArgs false
set_option linter.unusedVariables false
set_option maxRecDepth 100000
theorem Jv {a b:List Int} (ha:YN a) (hb:YN b):YN (a++b):=fun z hz=>(List.mem_append.1 hz).elim (ha z) (hb z)
theorem Zn9:YN []:=fun z hz=>by cases hz
theorem Zfa {α:Type} (c:α→List Int) (h:∀ x,YN (c x)) (l:List α):YN (l.map c).flatten:=by
 intro z hz
 obtain ⟨a,ha,hza⟩:=List.mem_flatten.1 hz
 obtain ⟨x,_,rfl⟩:=List.mem_map.1 ha
 exact h x z hza
theorem Zbg (z:Int):YN (nB z):=WG _
theorem Zhe (i:Id):YN (idB i):=Jv (Jv (WG _) (WG _)) (WG _)
theorem ZtQ (c:Call):YN (Zoy c):=Zfa sgB (fun x=>WG _) _
theorem Zu6 (c:Cap) (h:Y9 c=true):YN (YM c):=by
 obtain ⟨h1,h2,h3,h4,h5,h6,h7,h8,h9,h10,h11,h12⟩:=Zfp h
 intro z hz
 simp only [YM,List.mem_cons,List.not_mem_nil,or_false] at hz
 rcases hz with rfl | rfl | rfl | rfl | rfl | rfl | rfl | rfl | rfl | rfl
 ·omega
 ·omega
 ·split<;>omega
 all_goals omega
theorem ZpW (n:YA):YN (Zbq n):=by
 unfold Zbq
 split
 ·rename_i h
  have hc:Y9 n.cap=true:=by
   simp only [ZD,Bool.and_eq_true] at h
   exact h.1.1.2
  exact Jv (Jv (Jv (Zhe _) (WG _)) (Zfa idB Zhe _)) (Zu6 n.cap hc)
 ·exact Zn9
theorem Zgd (n:YA):YN (WK n):=Jv (Zbg _) (ZpW n)
theorem Zrh (r:Req):YN (ZfL r):=Jv (Jv (Jv (Jv (Zhe _) (ZtQ _)) (Zbg _)) (Zbg _)) (Zgd _)
theorem ZtB (s:Kw):YN (Zdh s):=Jv (Jv (Zgd _) (Zbg _)) (Zhe _)
theorem ZsP (m:Zci):YN (VI m):=Jv (Zbg _) (Zhe _)
theorem Zv2 (m:Ans):YN (ZcR m):=Jv (Zbg _) (Zbg _)
theorem ZxX (e:ZI):YN (Zbk e):=Jv (Jv (Zbg _) (Zbg _)) (Zgd _)
theorem ZsS (m:Zes):YN (ZfT m):=Jv (Zbg _) (Zbg _)
theorem Kr {α:Type} (c:α→List Int) (h:∀ x,YN (c x)) (l:List α):YN (Zw c l):=Jv (Zbg _) (Zfa c h l)
theorem Zge (s:JV):YN (Wi s):=Jv (Kr _ ZtB _) (Jv (Kr _ Zrh _) (Jv (Kr _ ZsP _) (Jv (Kr _ Zv2 _) (Jv (Kr _ ZxX _) (Kr _ Zhe _)))))
theorem Zio (v:Wf):YN (ZcA v):=Jv (Zbg _) (Jv (Kr _ Zbg _) (Kr _ Zbg _))
theorem ZDk (b:Bool):YN (bB b):=by
 unfold bB
 split
 ·exact Zbg 1
 ·exact Zbg 0
theorem Zvj (r:JF):YN (Zpm r):=Jv (Zbg _) (Jv (Zio _) (Jv (Zge _) (Jv (ZDk _) (Jv (Zio _) (Zge _)))))
theorem Zpl (m:Msg) (f:Nat):YN (Z5 m f):=by
 unfold Z5
 split
 ·exact Zbg _
 ·exact Zrh _
 ·exact Zhe _
 ·exact Zbg _
 ·exact ZDk _
 ·exact Kr _ Zgd _
 ·exact Zbg _
 ·exact Kr _ Zhe _
 ·exact Zbg _
 ·exact Kr _ Zbg _
 ·exact Zvj _
 ·exact Zbg _
 ·exact Zio _
 ·exact Zge _
 ·exact Kr _ ZsS _
 ·exact Zn9
theorem Zwq (m:Msg):YN (ZuG m):=Jv (Jv (Zbg _) (Jv (Zbg _) (Jv (Zbg _) (Zbg _)))) (Zfa _ (Zpl m) _)
end Go.Proofs.YtjldbnbdcmfbmaaGreat
end

section
namespace Go.Proofs.YtjldbnbdcmfbmaaGreat
open Go Go.AM
set_option linter.unusedSimpArgs false
set_option linter.unusedVariables false
set_option maxRecDepth 100000
end Go.Proofs.YtjldbnbdcmfbmaaGreat
end

section
namespace Go.Proofs.YtjldbnbdcmfbmaaGreat
open Go Go.AM
set_option linter.unusedSimpArgs false
set_option linter.unusedVariables false
set_option maxRecDepth 100000
end Go.Proofs.YtjldbnbdcmfbmaaGreat
end

section
namespace Go.Proofs.YtjldbnbdcmfbmaaGreat
open Go Go.AM
set_option linter.unusedSimpArgs false
set_option linter.unusedVariables false
set_option maxRecDepth 100000
end Go.Proofs.YtjldbnbdcmfbmaaGreat
end

section
namespace Go.Proofs.YtjldbnbdcmfbmaaGreat
open Go Go.AM
set_option linter.unusedSimpArgs false
set_option linter.unusedVariables false
set_option maxRecDepth 100000
end Go.Proofs.YtjldbnbdcmfbmaaGreat
end

section
namespace Go.Proofs.YtjldbnbdcmfbmaaGreat
open Go Go.AM
set_option linter.unusedSimpArgs false
set_option linter.unusedVariables false
set_option maxRecDepth 100000
end Go.Proofs.YtjldbnbdcmfbmaaGreat
end

section
namespace Go.Proofs.YtjldbnbdcmfbmaaGreat
open Go Go.AM
set_option linter.unusedSimpArgs false
set_option linter.unusedVariables false
set_option maxRecDepth 100000
end Go.Proofs.YtjldbnbdcmfbmaaGreat
end

section
namespace Go.Proofs.YtjldbnbdcmfbmaaGreat
open Go Go.AM
set_option linter.unusedSimpArgs false
set_option linter.unusedVariables false
set_option maxRecDepth 100000
end Go.Proofs.YtjldbnbdcmfbmaaGreat
end

section
namespace Go.Proofs.YtjldbnbdcmfbmaaGreat
open Go Go.AM
set_option linter.unusedSimpArgs false
set_option linter.unusedVariables false
set_option maxRecDepth 100000
end Go.Proofs.YtjldbnbdcmfbmaaGreat
end

section
namespace Go.Proofs.YtjldbnbdcmfbmaaGreat
open Go Go.AM
set_option linter.unusedSimpArgs false
set_option linter.unusedVariables false
set_option maxRecDepth 100000
end Go.Proofs.YtjldbnbdcmfbmaaGreat
end

section
namespace Go.Proofs.YtjldbnbdcmfbmaaGreat
open Go Go.AM
set_option linter.unusedSimpArgs false
set_option linter.unusedVariables false
set_option maxRecDepth 100000
end Go.Proofs.YtjldbnbdcmfbmaaGreat
end

section
namespace Go.Proofs.YtjldbnbdcmfbmaaGreat
open Go Go.AM
set_option linter.unusedSimpArgs false
set_option linter.unusedVariables false
set_option maxRecDepth 100000
theorem ZsQ:Ret (fun r=>r=true) ((g9).bind fun (r:Bool)=>some (r)):=Yd s9 (Zo rfl)
theorem StS.sized {s:JV} (h:StS s) (hc:ZeX s):s.Sized:=by
 have h1:=h.slots;have h2:=h.pend;have h3:=h.marks;have h4:=h.answers;have h5:=h.entries;have h6:=h.commits
 exact ⟨by omega,by omega,by omega,by omega,by omega,by omega,fun x hx=>by have:=h.spath x hx;omega,fun x hx=>⟨by have:=h.psrc x hx;omega,hc x hx⟩,fun x hx=>by have:=h.epath x hx;omega⟩
theorem VwG.sized {v:Wf} (h:VwG v):v.Sized:=⟨by have:=h.members;omega,by have:=h.owners;omega⟩
theorem MsS.sized {m:Msg} (h:MsS m) (hc:Zq8 m):m.Sized:=⟨by have:=h.req;omega,hc.1,by have:=h.ids;omega,by have:=h.nodes;omega,fun x hx=>by have:=h.node x hx;omega,by have:=h.cores;omega,by have:=h.moves;omega,h.next.sized,h.state.sized hc.2.1,⟨h.report.view.sized,h.report.state.sized hc.2.2.1,h.report.next.sized,h.report.proposal.sized hc.2.2.2⟩⟩
theorem StS.shrt {s:JV} (h:StS s):s.Short:=⟨by have:=h.slots;omega,by have:=h.pend;omega,by have:=h.marks;omega,by have:=h.answers;omega,by have:=h.entries;omega,by have:=h.commits;omega⟩
theorem MsS.shrt {m:Msg} (h:MsS m):m.Short:=⟨by have:=h.ids;omega,by have:=h.nodes;omega,by have:=h.cores;omega,by have:=h.moves;omega,by have:=h.next.members;omega,by have:=h.next.owners;omega,by have:=h.report.view.members;omega,by have:=h.report.view.owners;omega,by have:=h.report.next.members;omega,by have:=h.report.next.owners;omega,h.state.shrt,h.report.state.shrt,h.report.proposal.shrt⟩
theorem Zq9 (m:Msg) (v:Bool):ZbV (if v=true then (Zc (ZuG m),(0:Int)) else (E0,1)).1:=by
 cases v with
 | true => exact Zkz (Zwq m)
 | false => exact Zkz Zn9
theorem Z2 (m:Msg) (hz:m.Sized) (hs:m.Short):Ret (fun r=>r=true) (VP (Zpz m)):=by
 show Ret (fun r=>r=true) ((g14 m.kind m.view m.frm m.to m.round m.region m.slot m.op.core m.op.op m.op.part m.err m.settled m.req.id.core m.req.id.op m.req.id.part m.req.call.kind m.req.call.slot m.req.call.dest m.req.call.core m.req.call.mask m.req.call.object m.req.call.bits m.req.call.level m.req.call.offset m.req.call.count m.req.call.index m.req.call.addr m.req.region m.req.width m.req.src.id.core m.req.src.id.op m.req.src.id.part (Zb m.req.src.path) m.req.src.cap.kind m.req.src.cap.base m.req.src.cap.bits m.req.src.cap.rights m.req.src.cap.width m.req.src.cap.level m.req.src.cap.device (Zb m.ids) (m.nodes.map ZY) (Za m.cores) (m.moves.map ZU) m.base m.next.number (Za m.next.members) (Za m.next.owners) (m.state.slots.map Zg) (m.state.pending.map Zv) (m.state.marks.map Zh) (m.state.answers.map Zx) (m.state.entries.map Ze) (Zb m.state.commits) m.report.core m.report.view.number (Za m.report.view.members) (Za m.report.view.owners) (m.report.state.slots.map Zg) (m.report.state.pending.map Zv) (m.report.state.marks.map Zh) (m.report.state.answers.map Zx) (m.report.state.entries.map Ze) (Zb m.report.state.commits) m.report.ready m.report.next.number (Za m.report.next.members) (Za m.report.next.owners) (m.report.proposal.slots.map Zg) (m.report.proposal.pending.map Zv) (m.report.proposal.marks.map Zh) (m.report.proposal.answers.map Zx) (m.report.proposal.entries.map Ze) (Zb m.report.proposal.commits)).bind fun (r156:LL×Int)=>(g15 m.kind m.view m.frm m.to m.round m.region m.slot m.op.core m.op.op m.op.part m.err m.settled m.req.id.core m.req.id.op m.req.id.part m.req.call.kind m.req.call.slot m.req.call.dest m.req.call.core m.req.call.mask m.req.call.object m.req.call.bits m.req.call.level m.req.call.offset m.req.call.count m.req.call.index m.req.call.addr m.req.region m.req.width m.req.src.id.core m.req.src.id.op m.req.src.id.part (Zb m.req.src.path) m.req.src.cap.kind m.req.src.cap.base m.req.src.cap.bits m.req.src.cap.rights m.req.src.cap.width m.req.src.cap.level m.req.src.cap.device (Zb m.ids) (m.nodes.map ZY) (Za m.cores) (m.moves.map ZU) m.base m.next.number (Za m.next.members) (Za m.next.owners) (m.state.slots.map Zg) (m.state.pending.map Zv) (m.state.marks.map Zh) (m.state.answers.map Zx) (m.state.entries.map Ze) (Zb m.state.commits) m.report.core m.report.view.number (Za m.report.view.members) (Za m.report.view.owners) (m.report.state.slots.map Zg) (m.report.state.pending.map Zv) (m.report.state.marks.map Zh) (m.report.state.answers.map Zx) (m.report.state.entries.map Ze) (Zb m.report.state.commits) m.report.ready m.report.next.number (Za m.report.next.members) (Za m.report.next.owners) (m.report.proposal.slots.map Zg) (m.report.proposal.pending.map Zv) (m.report.proposal.marks.map Zh) (m.report.proposal.answers.map Zx) (m.report.proposal.entries.map Ze) (Zb m.report.proposal.commits)).bind fun (r158:LL×Int)=>(g12 m.kind m.view m.frm m.to m.round m.region m.slot m.op.core m.op.op m.op.part m.err m.settled m.req.id.core m.req.id.op m.req.id.part m.req.call.kind m.req.call.slot m.req.call.dest m.req.call.core m.req.call.mask m.req.call.object m.req.call.bits m.req.call.level m.req.call.offset m.req.call.count m.req.call.index m.req.call.addr m.req.region m.req.width m.req.src.id.core m.req.src.id.op m.req.src.id.part (Zb m.req.src.path) m.req.src.cap.kind m.req.src.cap.base m.req.src.cap.bits m.req.src.cap.rights m.req.src.cap.width m.req.src.cap.level m.req.src.cap.device (Zb m.ids) (m.nodes.map ZY) (Za m.cores) (m.moves.map ZU) m.base m.next.number (Za m.next.members) (Za m.next.owners) (m.state.slots.map Zg) (m.state.pending.map Zv) (m.state.marks.map Zh) (m.state.answers.map Zx) (m.state.entries.map Ze) (Zb m.state.commits) m.report.core m.report.view.number (Za m.report.view.members) (Za m.report.view.owners) (m.report.state.slots.map Zg) (m.report.state.pending.map Zv) (m.report.state.marks.map Zh) (m.report.state.answers.map Zx) (m.report.state.entries.map Ze) (Zb m.report.state.commits) m.report.ready m.report.next.number (Za m.report.next.members) (Za m.report.next.owners) (m.report.proposal.slots.map Zg) (m.report.proposal.pending.map Zv) (m.report.proposal.marks.map Zh) (m.report.proposal.answers.map Zx) (m.report.proposal.entries.map Ze) (Zb m.report.proposal.commits)).bind fun (r160:Bool)=>(g16 m.kind m.view m.frm m.to m.round m.region m.slot m.op.core m.op.op m.op.part m.err m.settled m.req.id.core m.req.id.op m.req.id.part m.req.call.kind m.req.call.slot m.req.call.dest m.req.call.core m.req.call.mask m.req.call.object m.req.call.bits m.req.call.level m.req.call.offset m.req.call.count m.req.call.index m.req.call.addr m.req.region m.req.width m.req.src.id.core m.req.src.id.op m.req.src.id.part (Zb m.req.src.path) m.req.src.cap.kind m.req.src.cap.base m.req.src.cap.bits m.req.src.cap.rights m.req.src.cap.width m.req.src.cap.level m.req.src.cap.device (Zb m.ids) (m.nodes.map ZY) (Za m.cores) (m.moves.map ZU) m.base m.next.number (Za m.next.members) (Za m.next.owners) (m.state.slots.map Zg) (m.state.pending.map Zv) (m.state.marks.map Zh) (m.state.answers.map Zx) (m.state.entries.map Ze) (Zb m.state.commits) m.report.core m.report.view.number (Za m.report.view.members) (Za m.report.view.owners) (m.report.state.slots.map Zg) (m.report.state.pending.map Zv) (m.report.state.marks.map Zh) (m.report.state.answers.map Zx) (m.report.state.entries.map Ze) (Zb m.report.state.commits) m.report.ready m.report.next.number (Za m.report.next.members) (Za m.report.next.owners) (m.report.proposal.slots.map Zg) (m.report.proposal.pending.map Zv) (m.report.proposal.marks.map Zh) (m.report.proposal.answers.map Zx) (m.report.proposal.entries.map Ze) (Zb m.report.proposal.commits)).bind fun (r161:Bool)=>
  if (r160 == r161)=true then ZE (ZbV r156.1)<|ZE (ZbV r158.1)<|if (ByteArray.toList (bytesOf r156.1) == ByteArray.toList (bytesOf r158.1))=true then if (cop .eql r156.2 r158.2)=true then (g9).bind fun (r162:Bool)=>some (r162) else some (false) else some (false) else some (false))
 have hg:Jn m=true→m.Good:=fun hv=>ZqK hz hs hv
 refine Yd (s14 m hz.fits hg) (Yd (s15 m hz.fits hg) (Yd (s12 m hz.fits) (Yd (s16 m hz.fits) ?_)))
 refine Zf (if_pos (beq_self_eq_true _)) ?_
 exact Zu (Zq9 m _) (Zu (Zq9 m _) (Zf (if_pos (beq_self_eq_true _)) (Zf (if_pos (by simp [cop])) ZsQ)))
theorem s3 (kind:Int) (l:List Int) (hl:RL l) (hll:l.length < 2^63) (sts:List Ztu) (hn:sts.length < 2^63) (o:Msg) (ho:o.Sized) (which:Int):g3 kind (Za l) (sts.map Zbi) o.kind o.view o.frm o.to o.round o.region o.slot o.op.core o.op.op o.op.part o.err o.settled o.req.id.core o.req.id.op o.req.id.part o.req.call.kind o.req.call.slot o.req.call.dest o.req.call.core o.req.call.mask o.req.call.object o.req.call.bits o.req.call.level o.req.call.offset o.req.call.count o.req.call.index o.req.call.addr o.req.region o.req.width o.req.src.id.core o.req.src.id.op o.req.src.id.part (Zb o.req.src.path) o.req.src.cap.kind o.req.src.cap.base o.req.src.cap.bits o.req.src.cap.rights o.req.src.cap.width o.req.src.cap.level o.req.src.cap.device (Zb o.ids) (o.nodes.map ZY) (Za o.cores) (o.moves.map ZU) o.base o.next.number (Za o.next.members) (Za o.next.owners) (o.state.slots.map Zg) (o.state.pending.map Zv) (o.state.marks.map Zh) (o.state.answers.map Zx) (o.state.entries.map Ze) (Zb o.state.commits) o.report.core o.report.view.number (Za o.report.view.members) (Za o.report.view.owners) (o.report.state.slots.map Zg) (o.report.state.pending.map Zv) (o.report.state.marks.map Zh) (o.report.state.answers.map Zx) (o.report.state.entries.map Ze) (Zb o.report.state.commits) o.report.ready o.report.next.number (Za o.report.next.members) (Za o.report.next.owners) (o.report.proposal.slots.map Zg) (o.report.proposal.pending.map Zv) (o.report.proposal.marks.map Zh) (o.report.proposal.answers.map Zx) (o.report.proposal.entries.map Ze) (Zb o.report.proposal.commits) which=some true:=by
 have key:Ret (fun r=>r=true) (g3 kind (Za l) (sts.map Zbi) o.kind o.view o.frm o.to o.round o.region o.slot o.op.core o.op.op o.op.part o.err o.settled o.req.id.core o.req.id.op o.req.id.part o.req.call.kind o.req.call.slot o.req.call.dest o.req.call.core o.req.call.mask o.req.call.object o.req.call.bits o.req.call.level o.req.call.offset o.req.call.count o.req.call.index o.req.call.addr o.req.region o.req.width o.req.src.id.core o.req.src.id.op o.req.src.id.part (Zb o.req.src.path) o.req.src.cap.kind o.req.src.cap.base o.req.src.cap.bits o.req.src.cap.rights o.req.src.cap.width o.req.src.cap.level o.req.src.cap.device (Zb o.ids) (o.nodes.map ZY) (Za o.cores) (o.moves.map ZU) o.base o.next.number (Za o.next.members) (Za o.next.owners) (o.state.slots.map Zg) (o.state.pending.map Zv) (o.state.marks.map Zh) (o.state.answers.map Zx) (o.state.entries.map Ze) (Zb o.state.commits) o.report.core o.report.view.number (Za o.report.view.members) (Za o.report.view.owners) (o.report.state.slots.map Zg) (o.report.state.pending.map Zv) (o.report.state.marks.map Zh) (o.report.state.answers.map Zx) (o.report.state.entries.map Ze) (Zb o.report.state.commits) o.report.ready o.report.next.number (Za o.report.next.members) (Za o.report.next.owners) (o.report.proposal.slots.map Zg) (o.report.proposal.pending.map Zv) (o.report.proposal.marks.map Zh) (o.report.proposal.answers.map Zx) (o.report.proposal.entries.map Ze) (Zb o.report.proposal.commits) which):=by
  rw [ZAQ]
  obtain ⟨b,hb,hsh⟩:=s8 o ho
  refine Yd hb (Zp (fun _=>ZsQ) fun hb2=>Zp (fun _=>ZsQ) fun _=>?_)
  have H:o.Short:=hsh (by simpa using hb2)
  refine Zd (s11 sts hn) fun r ⟨f,hf,hr⟩=>?_
  subst hr
  refine Zd (s10 kind l hll f 30 hf (by omega)) fun r ⟨m,hr,hv,hm,hc⟩=>?_
  subst hr
  have S:=hm.sized (hc hl)
  have K:=hm.shrt
  refine Yd (s12 m S.fits) (Zf (if_neg (by simp [hv])) ?_)
  refine Zd (place which 18 (by omega) (by omega)) fun w _=>?_
  refine Zp (fun _=>Z2 { m with view:=o.view } ⟨S.req,S.call,S.ids,S.nodes,S.node,S.cores,S.moves,S.next,S.state,S.report⟩ ⟨K.ids,K.nodes,K.cores,K.moves,K.nm,K.no,K.rvm,K.rvo,K.rnm,K.rno,K.state,K.rs,K.rp⟩) fun _=>?_
  refine Zp (fun _=>Z2 { m with frm:=o.frm } ⟨S.req,S.call,S.ids,S.nodes,S.node,S.cores,S.moves,S.next,S.state,S.report⟩ ⟨K.ids,K.nodes,K.cores,K.moves,K.nm,K.no,K.rvm,K.rvo,K.rnm,K.rno,K.state,K.rs,K.rp⟩) fun _=>?_
  refine Zp (fun _=>Z2 { m with to:=o.to } ⟨S.req,S.call,S.ids,S.nodes,S.node,S.cores,S.moves,S.next,S.state,S.report⟩ ⟨K.ids,K.nodes,K.cores,K.moves,K.nm,K.no,K.rvm,K.rvo,K.rnm,K.rno,K.state,K.rs,K.rp⟩) fun _=>?_
  refine Zp (fun _=>Z2 { m with round:=o.round } ⟨S.req,S.call,S.ids,S.nodes,S.node,S.cores,S.moves,S.next,S.state,S.report⟩ ⟨K.ids,K.nodes,K.cores,K.moves,K.nm,K.no,K.rvm,K.rvo,K.rnm,K.rno,K.state,K.rs,K.rp⟩) fun _=>?_
  refine Zp (fun _=>Z2 { m with region:=o.region } ⟨S.req,S.call,S.ids,S.nodes,S.node,S.cores,S.moves,S.next,S.state,S.report⟩ ⟨K.ids,K.nodes,K.cores,K.moves,K.nm,K.no,K.rvm,K.rvo,K.rnm,K.rno,K.state,K.rs,K.rp⟩) fun _=>?_
  refine Zp (fun _=>Z2 { m with slot:=o.slot } ⟨S.req,S.call,S.ids,S.nodes,S.node,S.cores,S.moves,S.next,S.state,S.report⟩ ⟨K.ids,K.nodes,K.cores,K.moves,K.nm,K.no,K.rvm,K.rvo,K.rnm,K.rno,K.state,K.rs,K.rp⟩) fun _=>?_
  refine Zp (fun _=>Z2 { m with op:=o.op } ⟨S.req,S.call,S.ids,S.nodes,S.node,S.cores,S.moves,S.next,S.state,S.report⟩ ⟨K.ids,K.nodes,K.cores,K.moves,K.nm,K.no,K.rvm,K.rvo,K.rnm,K.rno,K.state,K.rs,K.rp⟩) fun _=>?_
  refine Zp (fun _=>Z2 { m with err:=o.err } ⟨S.req,S.call,S.ids,S.nodes,S.node,S.cores,S.moves,S.next,S.state,S.report⟩ ⟨K.ids,K.nodes,K.cores,K.moves,K.nm,K.no,K.rvm,K.rvo,K.rnm,K.rno,K.state,K.rs,K.rp⟩) fun _=>?_
  refine Zp (fun _=>Z2 { m with settled:=o.settled } ⟨S.req,S.call,S.ids,S.nodes,S.node,S.cores,S.moves,S.next,S.state,S.report⟩ ⟨K.ids,K.nodes,K.cores,K.moves,K.nm,K.no,K.rvm,K.rvo,K.rnm,K.rno,K.state,K.rs,K.rp⟩) fun _=>?_
  refine Zp (fun _=>Z2 { m with req:=o.req } ⟨ho.req,ho.call,S.ids,S.nodes,S.node,S.cores,S.moves,S.next,S.state,S.report⟩ ⟨K.ids,K.nodes,K.cores,K.moves,K.nm,K.no,K.rvm,K.rvo,K.rnm,K.rno,K.state,K.rs,K.rp⟩) fun _=>?_
  refine Zp (fun _=>Z2 { m with ids:=o.ids } ⟨S.req,S.call,ho.ids,S.nodes,S.node,S.cores,S.moves,S.next,S.state,S.report⟩ ⟨H.ids,K.nodes,K.cores,K.moves,K.nm,K.no,K.rvm,K.rvo,K.rnm,K.rno,K.state,K.rs,K.rp⟩) fun _=>?_
  refine Zp (fun _=>Z2 { m with nodes:=o.nodes } ⟨S.req,S.call,S.ids,ho.nodes,ho.node,S.cores,S.moves,S.next,S.state,S.report⟩ ⟨K.ids,H.nodes,K.cores,K.moves,K.nm,K.no,K.rvm,K.rvo,K.rnm,K.rno,K.state,K.rs,K.rp⟩) fun _=>?_
  refine Zp (fun _=>Z2 { m with cores:=o.cores } ⟨S.req,S.call,S.ids,S.nodes,S.node,ho.cores,S.moves,S.next,S.state,S.report⟩ ⟨K.ids,K.nodes,H.cores,K.moves,K.nm,K.no,K.rvm,K.rvo,K.rnm,K.rno,K.state,K.rs,K.rp⟩) fun _=>?_
  refine Zp (fun _=>Z2 { m with moves:=o.moves } ⟨S.req,S.call,S.ids,S.nodes,S.node,S.cores,ho.moves,S.next,S.state,S.report⟩ ⟨K.ids,K.nodes,K.cores,H.moves,K.nm,K.no,K.rvm,K.rvo,K.rnm,K.rno,K.state,K.rs,K.rp⟩) fun _=>?_
  refine Zp (fun _=>Z2 { m with base:=o.base } ⟨S.req,S.call,S.ids,S.nodes,S.node,S.cores,S.moves,S.next,S.state,S.report⟩ ⟨K.ids,K.nodes,K.cores,K.moves,K.nm,K.no,K.rvm,K.rvo,K.rnm,K.rno,K.state,K.rs,K.rp⟩) fun _=>?_
  refine Zp (fun _=>Z2 { m with next:=o.next } ⟨S.req,S.call,S.ids,S.nodes,S.node,S.cores,S.moves,ho.next,S.state,S.report⟩ ⟨K.ids,K.nodes,K.cores,K.moves,H.nm,H.no,K.rvm,K.rvo,K.rnm,K.rno,K.state,K.rs,K.rp⟩) fun _=>?_
  refine Zp (fun _=>Z2 { m with state:=o.state } ⟨S.req,S.call,S.ids,S.nodes,S.node,S.cores,S.moves,S.next,ho.state,S.report⟩ ⟨K.ids,K.nodes,K.cores,K.moves,K.nm,K.no,K.rvm,K.rvo,K.rnm,K.rno,H.state,K.rs,K.rp⟩) fun _=>?_
  exact Z2 { m with report:=o.report } ⟨S.req,S.call,S.ids,S.nodes,S.node,S.cores,S.moves,S.next,S.state,ho.report⟩ ⟨K.ids,K.nodes,K.cores,K.moves,K.nm,K.no,H.rvm,H.rvo,H.rnm,H.rno,K.state,H.rs,H.rp⟩
 obtain ⟨r,e,rfl⟩:=key
 exact e
end Go.Proofs.YtjldbnbdcmfbmaaGreat
end

section
namespace Go.Proofs.YtjldbnbdcmfbmaaGreat
open Go Go.AM
set_option linter.unusedSimpArgs false
set_option linter.unusedVariables false
set_option maxRecDepth 100000
theorem Zj3 {x:AV} (h:ZaT Tryz.prog 12 3 x):∃ z,x=I z:=by
 simp only [ZaT,Tryz.underlying3] at h
 obtain ⟨z,hz,_⟩:=ZT h.2
 exact ⟨z,by simpa using hz⟩
theorem Zmr {x:AV} (h:ZaT Tryz.prog 12 22 x):∃ l:List Int,x = .slice false 1 (Za l)∧RL l∧l.length < 2^63:=by
 simp only [ZaT,Tryz.underlying22] at h
 have h2:=h.2
 rw [TyZ] at h2
 simp only [Tryz.underlying22,Zng] at h2
 obtain ⟨xs,h1,h0,h2,h3⟩:=h2
 obtain ⟨l,rfl,h5⟩:=Ye (f:=WF) (p:=fun x=>Rng x) xs fun y hy=>ZT (h3 y hy)
 exact ⟨l,by simpa [Za] using h1,h5,ZC6 (by simpa using h2)⟩
theorem Zs0 {d:Nat} {cs:List AV} (h:TyZ Tryz.prog (d+2) 84 cs):∃ s:Ztu,cs=Zbi s:=by
 rw [TyZ] at h
 simp only [Tryz.underlying84] at h
 obtain ⟨ps,rfl,hl,hp⟩:=h
 obtain ⟨p0,p1,p2,p3,p4,p5,p6,p7,p8,p9,rfl⟩:∃ p0 p1 p2 p3 p4 p5 p6 p7 p8 p9,ps = [p0,p1,p2,p3,p4,p5,p6,p7,p8,p9]:=by
  match ps,hl with
  | [p0, p1, p2, p3, p4, p5, p6, p7, p8, p9], _ => exact ⟨p0, p1, p2, p3, p4, p5, p6, p7, p8, p9, rfl⟩
 obtain ⟨a,rfl⟩:=ZdL (hp 0 _ _ rfl rfl)
 obtain ⟨b,rfl,_⟩:=ZT (hp 1 _ _ rfl rfl)
 obtain ⟨c,rfl,_⟩:=ZT (hp 2 _ _ rfl rfl)
 obtain ⟨d,rfl,_⟩:=ZT (hp 3 _ _ rfl rfl)
 obtain ⟨e,rfl,_⟩:=ZT (hp 4 _ _ rfl rfl)
 obtain ⟨f,rfl,_⟩:=ZT (hp 5 _ _ rfl rfl)
 obtain ⟨g,rfl,_⟩:=ZT (hp 6 _ _ rfl rfl)
 obtain ⟨i,rfl,_⟩:=ZT (hp 7 _ _ rfl rfl)
 obtain ⟨j,rfl,_⟩:=ZT (hp 8 _ _ rfl rfl)
 obtain ⟨k,rfl⟩:=ZdL (hp 9 _ _ rfl rfl)
 exact ⟨⟨a,b,c,d,e,f,g,i,j,k⟩,rfl⟩
theorem ZlA {x:AV} (h:ZaT Tryz.prog 12 23 x):∃ l:List Ztu,x = .slice false 10 (l.map Zbi)∧l.length < 2^63:=by
 simp only [ZaT,Tryz.underlying23] at h
 have hh:=h.2
 rw [TyZ] at hh
 simp only [Tryz.underlying23,Zvz] at hh
 obtain ⟨xs,h1,_,h2,h3⟩:=hh
 obtain ⟨l,rfl,h5⟩:=Ye (f:=Zbi) (p:=fun _=>True) xs fun y hy=>(Zs0 (h3 y hy)).elim fun a h=>⟨a,h,trivial⟩
 exact ⟨l,by simpa using h1,ZC6 (by simpa using h2)⟩
theorem Zpt {x:AV} (h:ZaT Tryz.prog 12 50 x):∃ m:Msg,x = .agg (ZyH m)∧m.Sized:=by
 simp only [ZaT,Tryz.underlying50] at h
 obtain ⟨cs,rfl,h⟩:=h
 obtain ⟨m,rfl,hm⟩:=Zvd h
 exact ⟨m,rfl,hm⟩
end Go.Proofs.YtjldbnbdcmfbmaaGreat
end
