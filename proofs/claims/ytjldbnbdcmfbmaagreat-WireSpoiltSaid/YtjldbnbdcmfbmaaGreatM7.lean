/- W8E18n, W8E18o, W8X18e, W8E18p, W8E18q, W8D11g, W8D12f, W8D12h, W8D12i, W8D12j, W8D12k, W8D12l, W8D12m, W8p, W8q, W8s, W8a: texts of the proof, put together. -/
import Derived.Test.YtjldbnbdcmfbmaaGreatM6
import Derived.Test.YtjldbnbdcmfbmaaGreatM4
import Derived.Test.YtjldbnbdcmfbmaaGreatF8f

section
namespace Go.Proofs.YtjldbnbdcmfbmaaGreat
open Go Go.AM
set_option linter.unusedSimpArgs false
set_option linter.unusedVariables false
set_option maxRecDepth 100000
structure Msg.Good (m:Msg):Prop where
 kind:N63 m.kind
 view:N63 m.view
 frm:N63 m.frm
 to:N63 m.to
 round:N63 m.round
 region:N63 m.region
 slot:N63 m.slot
 op:m.op.Small
 err:N63 m.err
 req:m.req.Good
 idsn:m.ids.length≤2097152
 ids:∀ x∈m.ids,x.Small
 nodesn:m.nodes.length≤2097152
 nodes:∀ x∈m.nodes,x.path.length < 2^63
 coresn:m.cores.length≤2097152
 cores:∀ x∈m.cores,0≤x∧x < 2^63
 movesn:m.moves.length≤2097152
 moves:∀ x∈m.moves,(0≤x.region∧x.region < 2^63)∧0≤x.to∧x.to < 2^63
 base:N63 m.base
 next:m.next.Good
 state:m.state.Good
 report:m.report.Good
def Z4 (m:Msg):Nat→List Int
 | 0 => nB m.region
 | 1 => Zfg m.req
 | 2 => idB m.op
 | 3 => nB m.err
 | 4 => bB m.settled
 | 5 => Zw WM m.nodes
 | 6 => nB m.slot
 | 7 => Zw idB m.ids
 | 8 => nB m.round
 | 9 => Zw nB m.cores
 | 10 => Zo2 m.report
 | 11 => nB m.base
 | 12 => Zc9 m.next
 | 13 => Wd m.state
 | 14 => Zw ZfB m.moves
 | _ => []
theorem Zok (m:Msg) (h:m.Good) (f:Nat):(Z4 m f).length≤7000000000:=by
 have b5:=J6 WM 411 _ m.nodes (fun x _=>Vc x) h.nodesn
 have b7:=J6 idB 33 _ m.ids (fun x _=>Y0 x) h.idsn
 have b9:=J6 nB 11 _ m.cores (fun x _=>ZP x) h.coresn
 have b14:=J6 ZfB 22 _ m.moves (fun x _=>ZfT x) h.movesn
 have b10:=ZmH _ h.report
 have b12:=K6 _ h.next
 have b13:=Vl _ h.state
 have b1:=ZcI m.req
 have b2:=Y0 m.op
 have b4:=ZmK m.settled
 have b0:=ZP m.region
 have b3:=ZP m.err
 have b6:=ZP m.slot
 have b8:=ZP m.round
 have b11:=ZP m.base
 unfold Z4
 split<;>first | omega | simp
theorem s39 (m:Msg) (h:m.Good) (l:List Int) (hl:l.length≤50000000000):∀ f:Nat,f < 15→g39 (Zc l) m.kind m.view m.frm m.to m.round m.region m.slot m.op.core m.op.op m.op.part m.err m.settled m.req.id.core m.req.id.op m.req.id.part m.req.call.kind m.req.call.slot m.req.call.dest m.req.call.core m.req.call.mask m.req.call.object m.req.call.bits m.req.call.level m.req.call.offset m.req.call.count m.req.call.index m.req.call.addr m.req.region m.req.width m.req.src.id.core m.req.src.id.op m.req.src.id.part (Zb m.req.src.path) m.req.src.cap.kind m.req.src.cap.base m.req.src.cap.bits m.req.src.cap.rights m.req.src.cap.width m.req.src.cap.level m.req.src.cap.device (Zb m.ids) (m.nodes.map ZY) (Za m.cores) (m.moves.map ZU) m.base m.next.number (Za m.next.members) (Za m.next.owners) (m.state.slots.map Zg) (m.state.pending.map Zv) (m.state.marks.map Zh) (m.state.answers.map Zx) (m.state.entries.map Ze) (Zb m.state.commits) m.report.core m.report.view.number (Za m.report.view.members) (Za m.report.view.owners) (m.report.state.slots.map Zg) (m.report.state.pending.map Zv) (m.report.state.marks.map Zh) (m.report.state.answers.map Zx) (m.report.state.entries.map Ze) (Zb m.report.state.commits) m.report.ready m.report.next.number (Za m.report.next.members) (Za m.report.next.owners) (m.report.proposal.slots.map Zg) (m.report.proposal.pending.map Zv) (m.report.proposal.marks.map Zh) (m.report.proposal.answers.map Zx) (m.report.proposal.entries.map Ze) (Zb m.report.proposal.commits) (f:Int)=some (Zc (l++Z4 m f))
 | 0, _ => (KV ..).trans (congrArg (fun x => Option.bind x some) (s38 l (by omega) h.region.1 h.region.2))
 | 1, _ => (KV ..).trans (congrArg (fun x => Option.bind x some) (ZDh l (by omega) _ h.req))
 | 2, _ => (KV ..).trans (congrArg (fun x => Option.bind x some) (ZvH l (by omega) h.op))
 | 3, _ => (KV ..).trans (congrArg (fun x => Option.bind x some) (s38 l (by omega) h.err.1 h.err.2))
 | 4, _ => (KV ..).trans (congrArg (fun x => Option.bind x some) (ZCN l (by omega) _))
 | 5, _ => (KV ..).trans (congrArg (fun x => Option.bind x some) (ZEw l _ (by have := h.nodesn; omega) (by have := h.nodesn; omega) h.nodes))
 | 6, _ => (KV ..).trans (congrArg (fun x => Option.bind x some) (s38 l (by omega) h.slot.1 h.slot.2))
 | 7, _ => (KV ..).trans (congrArg (fun x => Option.bind x some) (ZCR l _ (by have := h.idsn; omega) (by have := h.idsn; omega) h.ids))
 | 8, _ => (KV ..).trans (congrArg (fun x => Option.bind x some) (s38 l (by omega) h.round.1 h.round.2))
 | 9, _ => (KV ..).trans (congrArg (fun x => Option.bind x some) (ZBh l _ (by have := h.coresn; omega) (by have := h.coresn; omega) h.cores))
 | 10, _ => (KV ..).trans (congrArg (fun x => Option.bind x some) (ZD6 l hl _ h.report))
 | 11, _ => (KV ..).trans (congrArg (fun x => Option.bind x some) (s38 l (by omega) h.base.1 h.base.2))
 | 12, _ => (KV ..).trans (congrArg (fun x => Option.bind x some) (ZAC l (by omega) _ h.next))
 | 13, _ => (KV ..).trans (congrArg (fun x => Option.bind x some) (ZCu l (by omega) _ h.state))
 | 14, _ => (KV ..).trans (congrArg (fun x => Option.bind x some) (ZDP l _ (by have := h.movesn; omega) (by have := h.movesn; omega) h.moves))
def Yk (m:Msg):List Int:=nB m.kind++(nB m.view++(nB m.frm++nB m.to))
def ZuJ (m:Msg):List Int:=Yk m++((kf m.kind.toNat).map (Z4 m)).flatten
theorem Zxc (n:Nat):(kf n).length≤5:=by unfold kf;split<;>simp
theorem ZD0 (m:Msg) (h:m.Good) (L:List Nat) (hL:∀ f∈L,f < 15) (hn:L.length≤5) (acc:List Int) (ha:acc.length≤10000000000) :
  Znt Zr m.kind m.view m.frm m.to m.round m.region m.slot m.op.core m.op.op m.op.part m.err m.settled m.req.id.core m.req.id.op m.req.id.part m.req.call.kind m.req.call.slot m.req.call.dest m.req.call.core m.req.call.mask m.req.call.object m.req.call.bits m.req.call.level m.req.call.offset m.req.call.count m.req.call.index m.req.call.addr m.req.region m.req.width m.req.src.id.core m.req.src.id.op m.req.src.id.part (Zb m.req.src.path) m.req.src.cap.kind m.req.src.cap.base m.req.src.cap.bits m.req.src.cap.rights m.req.src.cap.width m.req.src.cap.level m.req.src.cap.device (Zb m.ids) (m.nodes.map ZY) (Za m.cores) (m.moves.map ZU) m.base m.next.number (Za m.next.members) (Za m.next.owners) (m.state.slots.map Zg) (m.state.pending.map Zv) (m.state.marks.map Zh) (m.state.answers.map Zx) (m.state.entries.map Ze) (Zb m.state.commits) m.report.core m.report.view.number (Za m.report.view.members) (Za m.report.view.owners) (m.report.state.slots.map Zg) (m.report.state.pending.map Zv) (m.report.state.marks.map Zh) (m.report.state.answers.map Zx) (m.report.state.entries.map Ze) (Zb m.report.state.commits) m.report.ready m.report.next.number (Za m.report.next.members) (Za m.report.next.owners) (m.report.proposal.slots.map Zg) (m.report.proposal.pending.map Zv) (m.report.proposal.marks.map Zh) (m.report.proposal.answers.map Zx) (m.report.proposal.entries.map Ze) (Zb m.report.proposal.commits) (fc L) (L.length:Int) 0 (Zc acc)=some (Zc (acc++(L.map (Z4 m)).flatten),0):=by
 refine JQ (F:=fun k a i=>Znt k m.kind m.view m.frm m.to m.round m.region m.slot m.op.core m.op.op m.op.part m.err m.settled m.req.id.core m.req.id.op m.req.id.part m.req.call.kind m.req.call.slot m.req.call.dest m.req.call.core m.req.call.mask m.req.call.object m.req.call.bits m.req.call.level m.req.call.offset m.req.call.count m.req.call.index m.req.call.addr m.req.region m.req.width m.req.src.id.core m.req.src.id.op m.req.src.id.part (Zb m.req.src.path) m.req.src.cap.kind m.req.src.cap.base m.req.src.cap.bits m.req.src.cap.rights m.req.src.cap.width m.req.src.cap.level m.req.src.cap.device (Zb m.ids) (m.nodes.map ZY) (Za m.cores) (m.moves.map ZU) m.base m.next.number (Za m.next.members) (Za m.next.owners) (m.state.slots.map Zg) (m.state.pending.map Zv) (m.state.marks.map Zh) (m.state.answers.map Zx) (m.state.entries.map Ze) (Zb m.state.commits) m.report.core m.report.view.number (Za m.report.view.members) (Za m.report.view.owners) (m.report.state.slots.map Zg) (m.report.state.pending.map Zv) (m.report.state.marks.map Zh) (m.report.state.answers.map Zx) (m.report.state.entries.map Ze) (Zb m.report.state.commits) m.report.ready m.report.next.number (Za m.report.next.members) (Za m.report.next.owners) (m.report.proposal.slots.map Zg) (m.report.proposal.pending.map Zv) (m.report.proposal.marks.map Zh) (m.report.proposal.answers.map Zx) (m.report.proposal.entries.map Ze) (Zb m.report.proposal.commits) (fc L) (L.length:Int) i a) (l:=L) (Z4 m) (fun acc=>some (Zc acc,0)) 7000000000 50000000000 (by omega) (fun x _=>Zok m h x) (fun k i acc hi ha=>?_) (fun k i acc hi ha=>?_) acc (by omega)
 ·refine (Zj5 ..).trans ?_
  rw [if_pos (ZQ hi)]
  refine (Znx hi _).trans ?_
  rw [s39 m h acc ha _ (hL _ (List.getElem_mem hi)),Option.bind_some,ZN hi (by omega)]
 ·refine (Zj5 ..).trans ?_
  rw [if_neg (ZT hi)]
theorem s14 (m:Msg) (hf:m.Fits) (h:Jn m=true→m.Good):g14 m.kind m.view m.frm m.to m.round m.region m.slot m.op.core m.op.op m.op.part m.err m.settled m.req.id.core m.req.id.op m.req.id.part m.req.call.kind m.req.call.slot m.req.call.dest m.req.call.core m.req.call.mask m.req.call.object m.req.call.bits m.req.call.level m.req.call.offset m.req.call.count m.req.call.index m.req.call.addr m.req.region m.req.width m.req.src.id.core m.req.src.id.op m.req.src.id.part (Zb m.req.src.path) m.req.src.cap.kind m.req.src.cap.base m.req.src.cap.bits m.req.src.cap.rights m.req.src.cap.width m.req.src.cap.level m.req.src.cap.device (Zb m.ids) (m.nodes.map ZY) (Za m.cores) (m.moves.map ZU) m.base m.next.number (Za m.next.members) (Za m.next.owners) (m.state.slots.map Zg) (m.state.pending.map Zv) (m.state.marks.map Zh) (m.state.answers.map Zx) (m.state.entries.map Ze) (Zb m.state.commits) m.report.core m.report.view.number (Za m.report.view.members) (Za m.report.view.owners) (m.report.state.slots.map Zg) (m.report.state.pending.map Zv) (m.report.state.marks.map Zh) (m.report.state.answers.map Zx) (m.report.state.entries.map Ze) (Zb m.report.state.commits) m.report.ready m.report.next.number (Za m.report.next.members) (Za m.report.next.owners) (m.report.proposal.slots.map Zg) (m.report.proposal.pending.map Zv) (m.report.proposal.marks.map Zh) (m.report.proposal.answers.map Zx) (m.report.proposal.entries.map Ze) (Zb m.report.proposal.commits)=some (if Jn m=true then (Zc (ZuJ m),0) else (E0,1)):=by
 rw [ZwE,s12 m hf,Option.bind_some]
 cases hv:Jn m with
 | false => rfl
 | true =>
  have hg:=h hv
  rw [if_neg (by simp),if_pos rfl]
  have hk:1≤m.kind∧m.kind≤17:=by
   unfold Jn headOk kindOk at hv
   simp only [Bool.and_eq_true,decide_eq_true_eq] at hv
   exact hv.1.1.1.1
  obtain ⟨n,hn⟩:∃ n:Nat,m.kind=n:=⟨m.kind.toNat,by omega⟩
  have e19:g32 m.kind=some (fc (kf n),true):=by rw [hn];exact s32 n (by omega) (by omega)
  have hk2:m.kind.toNat=n:=by omega
  have hlen:(fc (kf n)).length=(kf n).length:=List.length_map _
  have e:=JQ (F:=fun k a i=>ZpA k m.kind m.view m.frm m.to m.round m.region m.slot m.op.core m.op.op m.op.part m.err m.settled m.req.id.core m.req.id.op m.req.id.part m.req.call.kind m.req.call.slot m.req.call.dest m.req.call.core m.req.call.mask m.req.call.object m.req.call.bits m.req.call.level m.req.call.offset m.req.call.count m.req.call.index m.req.call.addr m.req.region m.req.width m.req.src.id.core m.req.src.id.op m.req.src.id.part (Zb m.req.src.path) m.req.src.cap.kind m.req.src.cap.base m.req.src.cap.bits m.req.src.cap.rights m.req.src.cap.width m.req.src.cap.level m.req.src.cap.device (Zb m.ids) (m.nodes.map ZY) (Za m.cores) (m.moves.map ZU) m.base m.next.number (Za m.next.members) (Za m.next.owners) (m.state.slots.map Zg) (m.state.pending.map Zv) (m.state.marks.map Zh) (m.state.answers.map Zx) (m.state.entries.map Ze) (Zb m.state.commits) m.report.core m.report.view.number (Za m.report.view.members) (Za m.report.view.owners) (m.report.state.slots.map Zg) (m.report.state.pending.map Zv) (m.report.state.marks.map Zh) (m.report.state.answers.map Zx) (m.report.state.entries.map Ze) (Zb m.report.state.commits) m.report.ready m.report.next.number (Za m.report.next.members) (Za m.report.next.owners) (m.report.proposal.slots.map Zg) (m.report.proposal.pending.map Zv) (m.report.proposal.marks.map Zh) (m.report.proposal.answers.map Zx) (m.report.proposal.entries.map Ze) (Zb m.report.proposal.commits) (Za [m.kind,m.view,m.frm,m.to]) (([m.kind,m.view,m.frm,m.to] : List Int).length:Int) i a) (l:=[m.kind,m.view,m.frm,m.to]) nB (fun acc=>some (Zc (acc++((kf n).map (Z4 m)).flatten),0)) 11 1000 (by simp) (fun x _=>ZP x)
   (fun k i acc hi ha=>by
    refine (Zkf ..).trans ?_
    have hz:N63 ([m.kind,m.view,m.frm,m.to] : List Int)[i]:=by
     have:=List.getElem_mem hi
     simp only [List.mem_cons,List.not_mem_nil,or_false] at this
     rcases this with e | e | e | e
     ·rw [e];exact hg.kind
     ·rw [e];exact hg.view
     ·rw [e];exact hg.frm
     ·rw [e];exact hg.to
    rw [if_pos (ZQ hi)]
    refine (ZG hi _).trans ?_
    rw [s38 acc (by omega) hz.1 hz.2,Option.bind_some,ZN hi (by simp)])
   (fun k i acc hi ha=>by
    refine (Zkf ..).trans ?_
    rw [if_neg (ZT hi),e19,Option.bind_some]
    dsimp only
    rw [hlen,ZD0 m hg (kf n) (Zxz n) (Zxc n) acc (by omega)])
   [] (by simp)
  refine Eq.trans e ?_
  simp only [ZuJ,Yk,hk2,List.map_cons,List.map_nil,List.flatten_cons,List.flatten_nil,List.nil_append,List.append_nil,List.append_assoc]
theorem l15 (m:Msg) (h:m.Good) (acc:List Int) (ha:acc.length≤10000000000):YZ Zr m.kind m.view m.frm m.to m.round m.region m.slot m.op.core m.op.op m.op.part m.err m.settled m.req.id.core m.req.id.op m.req.id.part m.req.call.kind m.req.call.slot m.req.call.dest m.req.call.core m.req.call.mask m.req.call.object m.req.call.bits m.req.call.level m.req.call.offset m.req.call.count m.req.call.index m.req.call.addr m.req.region m.req.width m.req.src.id.core m.req.src.id.op m.req.src.id.part (Zb m.req.src.path) m.req.src.cap.kind m.req.src.cap.base m.req.src.cap.bits m.req.src.cap.rights m.req.src.cap.width m.req.src.cap.level m.req.src.cap.device (Zb m.ids) (m.nodes.map ZY) (Za m.cores) (m.moves.map ZU) m.base m.next.number (Za m.next.members) (Za m.next.owners) (m.state.slots.map Zg) (m.state.pending.map Zv) (m.state.marks.map Zh) (m.state.answers.map Zx) (m.state.entries.map Ze) (Zb m.state.commits) m.report.core m.report.view.number (Za m.report.view.members) (Za m.report.view.owners) (m.report.state.slots.map Zg) (m.report.state.pending.map Zv) (m.report.state.marks.map Zh) (m.report.state.answers.map Zx) (m.report.state.entries.map Ze) (Zb m.report.state.commits) m.report.ready m.report.next.number (Za m.report.next.members) (Za m.report.next.owners) (m.report.proposal.slots.map Zg) (m.report.proposal.pending.map Zv) (m.report.proposal.marks.map Zh) (m.report.proposal.answers.map Zx) (m.report.proposal.entries.map Ze) (Zb m.report.proposal.commits) (Zc acc) 0=some (Zc (acc++(m.nodes.map WM).flatten),0):=by
 have hn:=h.nodesn
 have hn':m.nodes.length < 2^63:=by omega
 refine JQ (F:=fun k a i=>YZ k m.kind m.view m.frm m.to m.round m.region m.slot m.op.core m.op.op m.op.part m.err m.settled m.req.id.core m.req.id.op m.req.id.part m.req.call.kind m.req.call.slot m.req.call.dest m.req.call.core m.req.call.mask m.req.call.object m.req.call.bits m.req.call.level m.req.call.offset m.req.call.count m.req.call.index m.req.call.addr m.req.region m.req.width m.req.src.id.core m.req.src.id.op m.req.src.id.part (Zb m.req.src.path) m.req.src.cap.kind m.req.src.cap.base m.req.src.cap.bits m.req.src.cap.rights m.req.src.cap.width m.req.src.cap.level m.req.src.cap.device (Zb m.ids) (m.nodes.map ZY) (Za m.cores) (m.moves.map ZU) m.base m.next.number (Za m.next.members) (Za m.next.owners) (m.state.slots.map Zg) (m.state.pending.map Zv) (m.state.marks.map Zh) (m.state.answers.map Zx) (m.state.entries.map Ze) (Zb m.state.commits) m.report.core m.report.view.number (Za m.report.view.members) (Za m.report.view.owners) (m.report.state.slots.map Zg) (m.report.state.pending.map Zv) (m.report.state.marks.map Zh) (m.report.state.answers.map Zx) (m.report.state.entries.map Ze) (Zb m.report.state.commits) m.report.ready m.report.next.number (Za m.report.next.members) (Za m.report.next.owners) (m.report.proposal.slots.map Zg) (m.report.proposal.pending.map Zv) (m.report.proposal.marks.map Zh) (m.report.proposal.answers.map Zx) (m.report.proposal.entries.map Ze) (Zb m.report.proposal.commits) a i) (l:=m.nodes) WM (fun acc=>some (Zc acc,0)) 411 50000000000 hn' (fun x _=>Vc x) (fun k i acc hi ha=>?_) (fun k i acc hi ha=>?_) acc (by omega)
 ·refine (ZjI ..).trans ?_
  rw [List.length_map,if_pos (ZQ hi)]
  refine (Yv hi _).trans ?_
  simp only [Zhg,d2,d4,d8,d16]
  rw [s49 acc (by omega) _ (h.nodes _ (List.getElem_mem hi)),Option.bind_some,ZN hi hn']
 ·refine (ZjI ..).trans ?_
  rw [List.length_map,if_neg (ZT hi)]
theorem ZER (m:Msg) (hk:m.kind=17) (h:m.Good) (acc:List Int) (ha:acc.length≤10000000000):ZnB Zr m.kind m.view m.frm m.to m.round m.region m.slot m.op.core m.op.op m.op.part m.err m.settled m.req.id.core m.req.id.op m.req.id.part m.req.call.kind m.req.call.slot m.req.call.dest m.req.call.core m.req.call.mask m.req.call.object m.req.call.bits m.req.call.level m.req.call.offset m.req.call.count m.req.call.index m.req.call.addr m.req.region m.req.width m.req.src.id.core m.req.src.id.op m.req.src.id.part (Zb m.req.src.path) m.req.src.cap.kind m.req.src.cap.base m.req.src.cap.bits m.req.src.cap.rights m.req.src.cap.width m.req.src.cap.level m.req.src.cap.device (Zb m.ids) (m.nodes.map ZY) (Za m.cores) (m.moves.map ZU) m.base m.next.number (Za m.next.members) (Za m.next.owners) (m.state.slots.map Zg) (m.state.pending.map Zv) (m.state.marks.map Zh) (m.state.answers.map Zx) (m.state.entries.map Ze) (Zb m.state.commits) m.report.core m.report.view.number (Za m.report.view.members) (Za m.report.view.owners) (m.report.state.slots.map Zg) (m.report.state.pending.map Zv) (m.report.state.marks.map Zh) (m.report.state.answers.map Zx) (m.report.state.entries.map Ze) (Zb m.report.state.commits) m.report.ready m.report.next.number (Za m.report.next.members) (Za m.report.next.owners) (m.report.proposal.slots.map Zg) (m.report.proposal.pending.map Zv) (m.report.proposal.marks.map Zh) (m.report.proposal.answers.map Zx) (m.report.proposal.entries.map Ze) (Zb m.report.proposal.commits) (Zc acc) 0=some (Zc (acc++(m.moves.map ZfB).flatten),0):=by
 have hn:=h.movesn
 have hn':m.moves.length < 2^63:=by omega
 refine JQ (F:=fun k a i=>ZnB k m.kind m.view m.frm m.to m.round m.region m.slot m.op.core m.op.op m.op.part m.err m.settled m.req.id.core m.req.id.op m.req.id.part m.req.call.kind m.req.call.slot m.req.call.dest m.req.call.core m.req.call.mask m.req.call.object m.req.call.bits m.req.call.level m.req.call.offset m.req.call.count m.req.call.index m.req.call.addr m.req.region m.req.width m.req.src.id.core m.req.src.id.op m.req.src.id.part (Zb m.req.src.path) m.req.src.cap.kind m.req.src.cap.base m.req.src.cap.bits m.req.src.cap.rights m.req.src.cap.width m.req.src.cap.level m.req.src.cap.device (Zb m.ids) (m.nodes.map ZY) (Za m.cores) (m.moves.map ZU) m.base m.next.number (Za m.next.members) (Za m.next.owners) (m.state.slots.map Zg) (m.state.pending.map Zv) (m.state.marks.map Zh) (m.state.answers.map Zx) (m.state.entries.map Ze) (Zb m.state.commits) m.report.core m.report.view.number (Za m.report.view.members) (Za m.report.view.owners) (m.report.state.slots.map Zg) (m.report.state.pending.map Zv) (m.report.state.marks.map Zh) (m.report.state.answers.map Zx) (m.report.state.entries.map Ze) (Zb m.report.state.commits) m.report.ready m.report.next.number (Za m.report.next.members) (Za m.report.next.owners) (m.report.proposal.slots.map Zg) (m.report.proposal.pending.map Zv) (m.report.proposal.marks.map Zh) (m.report.proposal.answers.map Zx) (m.report.proposal.entries.map Ze) (Zb m.report.proposal.commits) a i) (l:=m.moves) ZfB (fun acc=>some (Zc acc,0)) 22 50000000000 hn' (fun x _=>ZfT x) (fun k i acc hi ha=>?_) (fun k i acc hi ha=>?_) acc (by omega)
 ·refine (ZjH ..).trans ?_
  have hz:=h.moves _ (List.getElem_mem hi)
  have b1:=ZP m.moves[i].region
  rw [List.length_map,if_pos (ZQ hi)]
  refine (Yh hi _).trans ?_
  simp only [Yh hi]
  rw [s40 acc (by omega) hz.1.1 hz.1.2,Option.bind_some,s40 _ (by rw [List.length_append];omega) hz.2.1 hz.2.2,Option.bind_some,ZN hi hn',List.append_assoc]
  rfl
 ·refine (ZjH ..).trans ?_
  rw [List.length_map,if_neg (ZT hi),if_neg (show ¬ (cop .eql m.kind 2)=true by simp only [CQ];omega),if_neg (show ¬ (cop .eql m.kind 4)=true by simp only [CQ];omega)]
theorem Ym (m:Msg) (h:m.Good):(nB m.region).length≤11∧(Zfg m.req).length≤598∧(idB m.op).length≤33∧(nB m.err).length≤11∧(bB m.settled).length≤11∧(nB m.slot).length≤11∧(nB m.round).length≤11∧(nB m.base).length≤11∧
  m.nodes.length≤2097152∧m.ids.length≤2097152∧m.cores.length≤2097152∧m.moves.length≤2097152∧(nB (m.nodes.length:Int)).length≤11∧(nB (m.moves.length:Int)).length≤11∧(Zw idB m.ids).length≤11+33*2097152∧(Zw nB m.cores).length≤11+11*2097152∧
  (Zo2 m.report).length≤7000000000∧(Zc9 m.next).length≤50000000∧(Wd m.state).length≤3400000000∧(nB m.kind).length≤11∧(nB m.view).length≤11∧(nB m.frm).length≤11∧(nB m.to).length≤11:=
 ⟨ZP m.region,ZcI m.req,Y0 m.op,ZP m.err,ZmK m.settled,ZP m.slot,ZP m.round,ZP m.base,h.nodesn,h.idsn,h.coresn,h.movesn,ZP _,ZP _,J6 idB 33 _ m.ids (fun x _=>Y0 x) h.idsn,J6 nB 11 _ m.cores (fun x _=>ZP x) h.coresn,
  ZmH _ h.report,K6 _ h.next,Vl _ h.state,ZP m.kind,ZP m.view,ZP m.frm,ZP m.to⟩
@[reducible] noncomputable def G8 (m:Msg):=g15 m.kind m.view m.frm m.to m.round m.region m.slot m.op.core m.op.op m.op.part m.err m.settled m.req.id.core m.req.id.op m.req.id.part m.req.call.kind m.req.call.slot m.req.call.dest m.req.call.core m.req.call.mask m.req.call.object m.req.call.bits m.req.call.level m.req.call.offset m.req.call.count m.req.call.index m.req.call.addr m.req.region m.req.width m.req.src.id.core m.req.src.id.op m.req.src.id.part (Zb m.req.src.path) m.req.src.cap.kind m.req.src.cap.base m.req.src.cap.bits m.req.src.cap.rights m.req.src.cap.width m.req.src.cap.level m.req.src.cap.device (Zb m.ids) (m.nodes.map ZY) (Za m.cores) (m.moves.map ZU) m.base m.next.number (Za m.next.members) (Za m.next.owners) (m.state.slots.map Zg) (m.state.pending.map Zv) (m.state.marks.map Zh) (m.state.answers.map Zx) (m.state.entries.map Ze) (Zb m.state.commits) m.report.core m.report.view.number (Za m.report.view.members) (Za m.report.view.owners) (m.report.state.slots.map Zg) (m.report.state.pending.map Zv) (m.report.state.marks.map Zh) (m.report.state.answers.map Zx) (m.report.state.entries.map Ze) (Zb m.report.state.commits) m.report.ready m.report.next.number (Za m.report.next.members) (Za m.report.next.owners) (m.report.proposal.slots.map Zg) (m.report.proposal.pending.map Zv) (m.report.proposal.marks.map Zh) (m.report.proposal.answers.map Zx) (m.report.proposal.entries.map Ze) (Zb m.report.proposal.commits)
theorem ZFf (m:Msg) (hf:m.Fits) (h:m.Good) (hv:Jn m=true) (hk:m.kind=1):G8 m=some (Zc (Yk m++((kf 1).map (Z4 m)).flatten),0):=by
 obtain ⟨b0,b1,b2,b3,b4,b6,b8,b11,n5,n7,n9,n14,b5,b14,b7,b9,b10,b12,b13,k0,k1,k2,k3⟩:=Ym m h
 have e0:E0=Zc []:=rfl
 unfold G8
 rw [Y4,s16 m hf,Option.bind_some,hv,if_neg (show ¬ (!true)=true by decide),e0,s40 [] (by simp) h.kind.1 h.kind.2,Option.bind_some,s40 _ (by simp only [List.length_append,List.length_nil];omega) h.view.1 h.view.2,Option.bind_some,s40 _ (by simp only [List.length_append,List.length_nil];omega) h.frm.1 h.frm.2,Option.bind_some,s40 _ (by simp only [List.length_append,List.length_nil];omega) h.to.1 h.to.2,Option.bind_some]
 rw [if_pos (keq hk)]
 rw [s40 _ (by simp only [List.length_append,List.length_nil];omega) h.region.1 h.region.2,Option.bind_some]
 rw [s41 _ (by simp only [List.length_append,List.length_nil];omega) _ h.req,Option.bind_some]
 rw [if_neg (kne (show m.kind≠2 by omega))]
 rw [if_neg (kne (show m.kind≠4 by omega))]
 simp only [Yk,kf,Z4,Zw,List.map_cons,List.map_nil,List.flatten_cons,List.flatten_nil,List.nil_append,List.append_nil,List.append_assoc]
theorem ZEQ (m:Msg) (hf:m.Fits) (h:m.Good) (hv:Jn m=true) (hk:m.kind=2):G8 m=some (Zc (Yk m++((kf 2).map (Z4 m)).flatten),0):=by
 obtain ⟨b0,b1,b2,b3,b4,b6,b8,b11,n5,n7,n9,n14,b5,b14,b7,b9,b10,b12,b13,k0,k1,k2,k3⟩:=Ym m h
 have e0:E0=Zc []:=rfl
 unfold G8
 rw [Y4,s16 m hf,Option.bind_some,hv,if_neg (show ¬ (!true)=true by decide),e0,s40 [] (by simp) h.kind.1 h.kind.2,Option.bind_some,s40 _ (by simp only [List.length_append,List.length_nil];omega) h.view.1 h.view.2,Option.bind_some,s40 _ (by simp only [List.length_append,List.length_nil];omega) h.frm.1 h.frm.2,Option.bind_some,s40 _ (by simp only [List.length_append,List.length_nil];omega) h.to.1 h.to.2,Option.bind_some]
 rw [if_neg (kne (show m.kind≠1 by omega))]
 rw [if_pos (keq hk)]
 rw [s40 _ (by simp only [List.length_append,List.length_nil];omega) h.region.1 h.region.2,Option.bind_some]
 rw [Zlb _ (by simp only [List.length_append,List.length_nil];omega) h.op,Option.bind_some]
 rw [s40 _ (by simp only [List.length_append,List.length_nil];omega) h.err.1 h.err.2,Option.bind_some]
 rw [s42 _ (by simp only [List.length_append,List.length_nil];omega),Option.bind_some]
 rw [if_pos (keq hk)]
 rw [List.length_map,s40 _ (by simp only [List.length_append,List.length_nil];omega) (by omega) (by omega),Option.bind_some]
 rw [l15 m h _ (by simp only [List.length_append,List.length_nil];omega)]
 simp only [Yk,kf,Z4,Zw,List.map_cons,List.map_nil,List.flatten_cons,List.flatten_nil,List.nil_append,List.append_nil,List.append_assoc]
theorem ZEh (m:Msg) (hf:m.Fits) (h:m.Good) (hv:Jn m=true) (hk:m.kind=3):G8 m=some (Zc (Yk m++((kf 3).map (Z4 m)).flatten),0):=by
 obtain ⟨b0,b1,b2,b3,b4,b6,b8,b11,n5,n7,n9,n14,b5,b14,b7,b9,b10,b12,b13,k0,k1,k2,k3⟩:=Ym m h
 have e0:E0=Zc []:=rfl
 unfold G8
 rw [Y4,s16 m hf,Option.bind_some,hv,if_neg (show ¬ (!true)=true by decide),e0,s40 [] (by simp) h.kind.1 h.kind.2,Option.bind_some,s40 _ (by simp only [List.length_append,List.length_nil];omega) h.view.1 h.view.2,Option.bind_some,s40 _ (by simp only [List.length_append,List.length_nil];omega) h.frm.1 h.frm.2,Option.bind_some,s40 _ (by simp only [List.length_append,List.length_nil];omega) h.to.1 h.to.2,Option.bind_some]
 rw [if_neg (kne (show m.kind≠1 by omega))]
 rw [if_neg (kne (show m.kind≠2 by omega))]
 rw [if_neg (kne (show m.kind≠4 by omega))]
 rw [if_neg (kne (show m.kind≠5 by omega))]
 rw [if_neg (kne (show m.kind≠6 by omega))]
 rw [if_neg (kne (show m.kind≠12 by omega))]
 rw [if_neg (kne (show m.kind≠13 by omega))]
 rw [if_neg (kne (show m.kind≠14 by omega))]
 rw [if_neg (kne (show m.kind≠15 by omega))]
 rw [if_neg (kne (show m.kind≠16 by omega))]
 rw [if_neg (kne (show m.kind≠17 by omega))]
 rw [s40 _ (by simp only [List.length_append,List.length_nil];omega) h.region.1 h.region.2,Option.bind_some]
 rw [Zlb _ (by simp only [List.length_append,List.length_nil];omega) h.op,Option.bind_some]
 rw [if_neg (kne (show m.kind≠2 by omega))]
 rw [if_neg (kne (show m.kind≠4 by omega))]
 simp only [Yk,kf,Z4,Zw,List.map_cons,List.map_nil,List.flatten_cons,List.flatten_nil,List.nil_append,List.append_nil,List.append_assoc]
theorem ZDJ (m:Msg) (hf:m.Fits) (h:m.Good) (hv:Jn m=true) (hk:m.kind=4):G8 m=some (Zc (Yk m++((kf 4).map (Z4 m)).flatten),0):=by
 obtain ⟨b0,b1,b2,b3,b4,b6,b8,b11,n5,n7,n9,n14,b5,b14,b7,b9,b10,b12,b13,k0,k1,k2,k3⟩:=Ym m h
 have e0:E0=Zc []:=rfl
 unfold G8
 rw [Y4,s16 m hf,Option.bind_some,hv,if_neg (show ¬ (!true)=true by decide),e0,s40 [] (by simp) h.kind.1 h.kind.2,Option.bind_some,s40 _ (by simp only [List.length_append,List.length_nil];omega) h.view.1 h.view.2,Option.bind_some,s40 _ (by simp only [List.length_append,List.length_nil];omega) h.frm.1 h.frm.2,Option.bind_some,s40 _ (by simp only [List.length_append,List.length_nil];omega) h.to.1 h.to.2,Option.bind_some]
 rw [if_neg (kne (show m.kind≠1 by omega))]
 rw [if_neg (kne (show m.kind≠2 by omega))]
 rw [if_pos (keq hk)]
 rw [s40 _ (by simp only [List.length_append,List.length_nil];omega) h.region.1 h.region.2,Option.bind_some]
 rw [Zlb _ (by simp only [List.length_append,List.length_nil];omega) h.op,Option.bind_some]
 rw [s40 _ (by simp only [List.length_append,List.length_nil];omega) h.slot.1 h.slot.2,Option.bind_some]
 rw [if_neg (kne (show m.kind≠2 by omega))]
 rw [if_pos (keq hk)]
 rw [List.length_map,s40 _ (by simp only [List.length_append,List.length_nil];omega) (by omega) (by omega),Option.bind_some]
 rw [l15 m h _ (by simp only [List.length_append,List.length_nil];omega)]
 simp only [Yk,kf,Z4,Zw,List.map_cons,List.map_nil,List.flatten_cons,List.flatten_nil,List.nil_append,List.append_nil,List.append_assoc]
theorem ZEA (m:Msg) (hf:m.Fits) (h:m.Good) (hv:Jn m=true) (hk:m.kind=5):G8 m=some (Zc (Yk m++((kf 5).map (Z4 m)).flatten),0):=by
 obtain ⟨b0,b1,b2,b3,b4,b6,b8,b11,n5,n7,n9,n14,b5,b14,b7,b9,b10,b12,b13,k0,k1,k2,k3⟩:=Ym m h
 have e0:E0=Zc []:=rfl
 unfold G8
 rw [Y4,s16 m hf,Option.bind_some,hv,if_neg (show ¬ (!true)=true by decide),e0,s40 [] (by simp) h.kind.1 h.kind.2,Option.bind_some,s40 _ (by simp only [List.length_append,List.length_nil];omega) h.view.1 h.view.2,Option.bind_some,s40 _ (by simp only [List.length_append,List.length_nil];omega) h.frm.1 h.frm.2,Option.bind_some,s40 _ (by simp only [List.length_append,List.length_nil];omega) h.to.1 h.to.2,Option.bind_some]
 rw [if_neg (kne (show m.kind≠1 by omega))]
 rw [if_neg (kne (show m.kind≠2 by omega))]
 rw [if_neg (kne (show m.kind≠4 by omega))]
 rw [if_pos (keq hk)]
 rw [s40 _ (by simp only [List.length_append,List.length_nil];omega) h.region.1 h.region.2,Option.bind_some]
 rw [Zlb _ (by simp only [List.length_append,List.length_nil];omega) h.op,Option.bind_some]
 rw [s40 _ (by simp only [List.length_append,List.length_nil];omega) h.err.1 h.err.2,Option.bind_some]
 rw [if_neg (kne (show m.kind≠2 by omega))]
 rw [if_neg (kne (show m.kind≠4 by omega))]
 simp only [Yk,kf,Z4,Zw,List.map_cons,List.map_nil,List.flatten_cons,List.flatten_nil,List.nil_append,List.append_nil,List.append_assoc]
theorem ZFe (m:Msg) (hf:m.Fits) (h:m.Good) (hv:Jn m=true) (hk:m.kind=6):G8 m=some (Zc (Yk m++((kf 6).map (Z4 m)).flatten),0):=by
 obtain ⟨b0,b1,b2,b3,b4,b6,b8,b11,n5,n7,n9,n14,b5,b14,b7,b9,b10,b12,b13,k0,k1,k2,k3⟩:=Ym m h
 have e0:E0=Zc []:=rfl
 unfold G8
 rw [Y4,s16 m hf,Option.bind_some,hv,if_neg (show ¬ (!true)=true by decide),e0,s40 [] (by simp) h.kind.1 h.kind.2,Option.bind_some,s40 _ (by simp only [List.length_append,List.length_nil];omega) h.view.1 h.view.2,Option.bind_some,s40 _ (by simp only [List.length_append,List.length_nil];omega) h.frm.1 h.frm.2,Option.bind_some,s40 _ (by simp only [List.length_append,List.length_nil];omega) h.to.1 h.to.2,Option.bind_some]
 rw [if_neg (kne (show m.kind≠1 by omega))]
 rw [if_neg (kne (show m.kind≠2 by omega))]
 rw [if_neg (kne (show m.kind≠4 by omega))]
 rw [if_neg (kne (show m.kind≠5 by omega))]
 rw [if_pos (keq hk)]
 rw [s40 _ (by simp only [List.length_append,List.length_nil];omega) h.region.1 h.region.2,Option.bind_some]
 rw [Zlb _ (by simp only [List.length_append,List.length_nil];omega) h.op,Option.bind_some]
 rw [s44 _ _ (by simp only [List.length_append,List.length_nil];omega) (by omega) h.ids,Option.bind_some]
 rw [if_neg (kne (show m.kind≠2 by omega))]
 rw [if_neg (kne (show m.kind≠4 by omega))]
 simp only [Yk,kf,Z4,Zw,List.map_cons,List.map_nil,List.flatten_cons,List.flatten_nil,List.nil_append,List.append_nil,List.append_assoc]
theorem ZEv (m:Msg) (hf:m.Fits) (h:m.Good) (hv:Jn m=true) (hk:m.kind=7):G8 m=some (Zc (Yk m++((kf 7).map (Z4 m)).flatten),0):=by
 obtain ⟨b0,b1,b2,b3,b4,b6,b8,b11,n5,n7,n9,n14,b5,b14,b7,b9,b10,b12,b13,k0,k1,k2,k3⟩:=Ym m h
 have e0:E0=Zc []:=rfl
 unfold G8
 rw [Y4,s16 m hf,Option.bind_some,hv,if_neg (show ¬ (!true)=true by decide),e0,s40 [] (by simp) h.kind.1 h.kind.2,Option.bind_some,s40 _ (by simp only [List.length_append,List.length_nil];omega) h.view.1 h.view.2,Option.bind_some,s40 _ (by simp only [List.length_append,List.length_nil];omega) h.frm.1 h.frm.2,Option.bind_some,s40 _ (by simp only [List.length_append,List.length_nil];omega) h.to.1 h.to.2,Option.bind_some]
 rw [if_neg (kne (show m.kind≠1 by omega))]
 rw [if_neg (kne (show m.kind≠2 by omega))]
 rw [if_neg (kne (show m.kind≠4 by omega))]
 rw [if_neg (kne (show m.kind≠5 by omega))]
 rw [if_neg (kne (show m.kind≠6 by omega))]
 rw [if_neg (kne (show m.kind≠12 by omega))]
 rw [if_neg (kne (show m.kind≠13 by omega))]
 rw [if_neg (kne (show m.kind≠14 by omega))]
 rw [if_neg (kne (show m.kind≠15 by omega))]
 rw [if_neg (kne (show m.kind≠16 by omega))]
 rw [if_neg (kne (show m.kind≠17 by omega))]
 rw [s40 _ (by simp only [List.length_append,List.length_nil];omega) h.region.1 h.region.2,Option.bind_some]
 rw [Zlb _ (by simp only [List.length_append,List.length_nil];omega) h.op,Option.bind_some]
 rw [if_neg (kne (show m.kind≠2 by omega))]
 rw [if_neg (kne (show m.kind≠4 by omega))]
 simp only [Yk,kf,Z4,Zw,List.map_cons,List.map_nil,List.flatten_cons,List.flatten_nil,List.nil_append,List.append_nil,List.append_assoc]
theorem ZDI (m:Msg) (hf:m.Fits) (h:m.Good) (hv:Jn m=true) (hk:m.kind=8):G8 m=some (Zc (Yk m++((kf 8).map (Z4 m)).flatten),0):=by
 obtain ⟨b0,b1,b2,b3,b4,b6,b8,b11,n5,n7,n9,n14,b5,b14,b7,b9,b10,b12,b13,k0,k1,k2,k3⟩:=Ym m h
 have e0:E0=Zc []:=rfl
 unfold G8
 rw [Y4,s16 m hf,Option.bind_some,hv,if_neg (show ¬ (!true)=true by decide),e0,s40 [] (by simp) h.kind.1 h.kind.2,Option.bind_some,s40 _ (by simp only [List.length_append,List.length_nil];omega) h.view.1 h.view.2,Option.bind_some,s40 _ (by simp only [List.length_append,List.length_nil];omega) h.frm.1 h.frm.2,Option.bind_some,s40 _ (by simp only [List.length_append,List.length_nil];omega) h.to.1 h.to.2,Option.bind_some]
 rw [if_neg (kne (show m.kind≠1 by omega))]
 rw [if_neg (kne (show m.kind≠2 by omega))]
 rw [if_neg (kne (show m.kind≠4 by omega))]
 rw [if_neg (kne (show m.kind≠5 by omega))]
 rw [if_neg (kne (show m.kind≠6 by omega))]
 rw [if_neg (kne (show m.kind≠12 by omega))]
 rw [if_neg (kne (show m.kind≠13 by omega))]
 rw [if_neg (kne (show m.kind≠14 by omega))]
 rw [if_neg (kne (show m.kind≠15 by omega))]
 rw [if_neg (kne (show m.kind≠16 by omega))]
 rw [if_neg (kne (show m.kind≠17 by omega))]
 rw [s40 _ (by simp only [List.length_append,List.length_nil];omega) h.region.1 h.region.2,Option.bind_some]
 rw [Zlb _ (by simp only [List.length_append,List.length_nil];omega) h.op,Option.bind_some]
 rw [if_neg (kne (show m.kind≠2 by omega))]
 rw [if_neg (kne (show m.kind≠4 by omega))]
 simp only [Yk,kf,Z4,Zw,List.map_cons,List.map_nil,List.flatten_cons,List.flatten_nil,List.nil_append,List.append_nil,List.append_assoc]
theorem ZEG (m:Msg) (hf:m.Fits) (h:m.Good) (hv:Jn m=true) (hk:m.kind=9):G8 m=some (Zc (Yk m++((kf 9).map (Z4 m)).flatten),0):=by
 obtain ⟨b0,b1,b2,b3,b4,b6,b8,b11,n5,n7,n9,n14,b5,b14,b7,b9,b10,b12,b13,k0,k1,k2,k3⟩:=Ym m h
 have e0:E0=Zc []:=rfl
 unfold G8
 rw [Y4,s16 m hf,Option.bind_some,hv,if_neg (show ¬ (!true)=true by decide),e0,s40 [] (by simp) h.kind.1 h.kind.2,Option.bind_some,s40 _ (by simp only [List.length_append,List.length_nil];omega) h.view.1 h.view.2,Option.bind_some,s40 _ (by simp only [List.length_append,List.length_nil];omega) h.frm.1 h.frm.2,Option.bind_some,s40 _ (by simp only [List.length_append,List.length_nil];omega) h.to.1 h.to.2,Option.bind_some]
 rw [if_neg (kne (show m.kind≠1 by omega))]
 rw [if_neg (kne (show m.kind≠2 by omega))]
 rw [if_neg (kne (show m.kind≠4 by omega))]
 rw [if_neg (kne (show m.kind≠5 by omega))]
 rw [if_neg (kne (show m.kind≠6 by omega))]
 rw [if_neg (kne (show m.kind≠12 by omega))]
 rw [if_neg (kne (show m.kind≠13 by omega))]
 rw [if_neg (kne (show m.kind≠14 by omega))]
 rw [if_neg (kne (show m.kind≠15 by omega))]
 rw [if_neg (kne (show m.kind≠16 by omega))]
 rw [if_neg (kne (show m.kind≠17 by omega))]
 rw [s40 _ (by simp only [List.length_append,List.length_nil];omega) h.region.1 h.region.2,Option.bind_some]
 rw [Zlb _ (by simp only [List.length_append,List.length_nil];omega) h.op,Option.bind_some]
 rw [if_neg (kne (show m.kind≠2 by omega))]
 rw [if_neg (kne (show m.kind≠4 by omega))]
 simp only [Yk,kf,Z4,Zw,List.map_cons,List.map_nil,List.flatten_cons,List.flatten_nil,List.nil_append,List.append_nil,List.append_assoc]
theorem Zz8 (m:Msg) (hf:m.Fits) (h:m.Good) (hv:Jn m=true) (hk:m.kind=10):G8 m=some (Zc (Yk m++((kf 10).map (Z4 m)).flatten),0):=by
 obtain ⟨b0,b1,b2,b3,b4,b6,b8,b11,n5,n7,n9,n14,b5,b14,b7,b9,b10,b12,b13,k0,k1,k2,k3⟩:=Ym m h
 have e0:E0=Zc []:=rfl
 unfold G8
 rw [Y4,s16 m hf,Option.bind_some,hv,if_neg (show ¬ (!true)=true by decide),e0,s40 [] (by simp) h.kind.1 h.kind.2,Option.bind_some,s40 _ (by simp only [List.length_append,List.length_nil];omega) h.view.1 h.view.2,Option.bind_some,s40 _ (by simp only [List.length_append,List.length_nil];omega) h.frm.1 h.frm.2,Option.bind_some,s40 _ (by simp only [List.length_append,List.length_nil];omega) h.to.1 h.to.2,Option.bind_some]
 rw [if_neg (kne (show m.kind≠1 by omega))]
 rw [if_neg (kne (show m.kind≠2 by omega))]
 rw [if_neg (kne (show m.kind≠4 by omega))]
 rw [if_neg (kne (show m.kind≠5 by omega))]
 rw [if_neg (kne (show m.kind≠6 by omega))]
 rw [if_neg (kne (show m.kind≠12 by omega))]
 rw [if_neg (kne (show m.kind≠13 by omega))]
 rw [if_neg (kne (show m.kind≠14 by omega))]
 rw [if_neg (kne (show m.kind≠15 by omega))]
 rw [if_neg (kne (show m.kind≠16 by omega))]
 rw [if_neg (kne (show m.kind≠17 by omega))]
 rw [s40 _ (by simp only [List.length_append,List.length_nil];omega) h.region.1 h.region.2,Option.bind_some]
 rw [Zlb _ (by simp only [List.length_append,List.length_nil];omega) h.op,Option.bind_some]
 rw [if_neg (kne (show m.kind≠2 by omega))]
 rw [if_neg (kne (show m.kind≠4 by omega))]
 simp only [Yk,kf,Z4,Zw,List.map_cons,List.map_nil,List.flatten_cons,List.flatten_nil,List.nil_append,List.append_nil,List.append_assoc]
theorem ZBN (m:Msg) (hf:m.Fits) (h:m.Good) (hv:Jn m=true) (hk:m.kind=11):G8 m=some (Zc (Yk m++((kf 11).map (Z4 m)).flatten),0):=by
 obtain ⟨b0,b1,b2,b3,b4,b6,b8,b11,n5,n7,n9,n14,b5,b14,b7,b9,b10,b12,b13,k0,k1,k2,k3⟩:=Ym m h
 have e0:E0=Zc []:=rfl
 unfold G8
 rw [Y4,s16 m hf,Option.bind_some,hv,if_neg (show ¬ (!true)=true by decide),e0,s40 [] (by simp) h.kind.1 h.kind.2,Option.bind_some,s40 _ (by simp only [List.length_append,List.length_nil];omega) h.view.1 h.view.2,Option.bind_some,s40 _ (by simp only [List.length_append,List.length_nil];omega) h.frm.1 h.frm.2,Option.bind_some,s40 _ (by simp only [List.length_append,List.length_nil];omega) h.to.1 h.to.2,Option.bind_some]
 rw [if_neg (kne (show m.kind≠1 by omega))]
 rw [if_neg (kne (show m.kind≠2 by omega))]
 rw [if_neg (kne (show m.kind≠4 by omega))]
 rw [if_neg (kne (show m.kind≠5 by omega))]
 rw [if_neg (kne (show m.kind≠6 by omega))]
 rw [if_neg (kne (show m.kind≠12 by omega))]
 rw [if_neg (kne (show m.kind≠13 by omega))]
 rw [if_neg (kne (show m.kind≠14 by omega))]
 rw [if_neg (kne (show m.kind≠15 by omega))]
 rw [if_neg (kne (show m.kind≠16 by omega))]
 rw [if_neg (kne (show m.kind≠17 by omega))]
 rw [s40 _ (by simp only [List.length_append,List.length_nil];omega) h.region.1 h.region.2,Option.bind_some]
 rw [Zlb _ (by simp only [List.length_append,List.length_nil];omega) h.op,Option.bind_some]
 rw [if_neg (kne (show m.kind≠2 by omega))]
 rw [if_neg (kne (show m.kind≠4 by omega))]
 simp only [Yk,kf,Z4,Zw,List.map_cons,List.map_nil,List.flatten_cons,List.flatten_nil,List.nil_append,List.append_nil,List.append_assoc]
theorem ZzI (m:Msg) (hf:m.Fits) (h:m.Good) (hv:Jn m=true) (hk:m.kind=12):G8 m=some (Zc (Yk m++((kf 12).map (Z4 m)).flatten),0):=by
 obtain ⟨b0,b1,b2,b3,b4,b6,b8,b11,n5,n7,n9,n14,b5,b14,b7,b9,b10,b12,b13,k0,k1,k2,k3⟩:=Ym m h
 have e0:E0=Zc []:=rfl
 unfold G8
 rw [Y4,s16 m hf,Option.bind_some,hv,if_neg (show ¬ (!true)=true by decide),e0,s40 [] (by simp) h.kind.1 h.kind.2,Option.bind_some,s40 _ (by simp only [List.length_append,List.length_nil];omega) h.view.1 h.view.2,Option.bind_some,s40 _ (by simp only [List.length_append,List.length_nil];omega) h.frm.1 h.frm.2,Option.bind_some,s40 _ (by simp only [List.length_append,List.length_nil];omega) h.to.1 h.to.2,Option.bind_some]
 rw [if_neg (kne (show m.kind≠1 by omega))]
 rw [if_neg (kne (show m.kind≠2 by omega))]
 rw [if_neg (kne (show m.kind≠4 by omega))]
 rw [if_neg (kne (show m.kind≠5 by omega))]
 rw [if_neg (kne (show m.kind≠6 by omega))]
 rw [if_pos (keq hk)]
 rw [s40 _ (by simp only [List.length_append,List.length_nil];omega) h.round.1 h.round.2,Option.bind_some]
 rw [s45 _ _ (by simp only [List.length_append,List.length_nil];omega) (by omega) h.cores,Option.bind_some]
 rw [if_neg (kne (show m.kind≠2 by omega))]
 rw [if_neg (kne (show m.kind≠4 by omega))]
 simp only [Yk,kf,Z4,Zw,List.map_cons,List.map_nil,List.flatten_cons,List.flatten_nil,List.nil_append,List.append_nil,List.append_assoc]
theorem ZBU (m:Msg) (hf:m.Fits) (h:m.Good) (hv:Jn m=true) (hk:m.kind=13):G8 m=some (Zc (Yk m++((kf 13).map (Z4 m)).flatten),0):=by
 obtain ⟨b0,b1,b2,b3,b4,b6,b8,b11,n5,n7,n9,n14,b5,b14,b7,b9,b10,b12,b13,k0,k1,k2,k3⟩:=Ym m h
 have e0:E0=Zc []:=rfl
 unfold G8
 rw [Y4,s16 m hf,Option.bind_some,hv,if_neg (show ¬ (!true)=true by decide),e0,s40 [] (by simp) h.kind.1 h.kind.2,Option.bind_some,s40 _ (by simp only [List.length_append,List.length_nil];omega) h.view.1 h.view.2,Option.bind_some,s40 _ (by simp only [List.length_append,List.length_nil];omega) h.frm.1 h.frm.2,Option.bind_some,s40 _ (by simp only [List.length_append,List.length_nil];omega) h.to.1 h.to.2,Option.bind_some]
 rw [if_neg (kne (show m.kind≠1 by omega))]
 rw [if_neg (kne (show m.kind≠2 by omega))]
 rw [if_neg (kne (show m.kind≠4 by omega))]
 rw [if_neg (kne (show m.kind≠5 by omega))]
 rw [if_neg (kne (show m.kind≠6 by omega))]
 rw [if_neg (kne (show m.kind≠12 by omega))]
 rw [if_pos (keq hk)]
 rw [s40 _ (by simp only [List.length_append,List.length_nil];omega) h.round.1 h.round.2,Option.bind_some]
 rw [s46 _ (by simp only [List.length_append,List.length_nil];omega) _ h.report,Option.bind_some]
 rw [if_neg (kne (show m.kind≠2 by omega))]
 rw [if_neg (kne (show m.kind≠4 by omega))]
 simp only [Yk,kf,Z4,Zw,List.map_cons,List.map_nil,List.flatten_cons,List.flatten_nil,List.nil_append,List.append_nil,List.append_assoc]
theorem ZBd (m:Msg) (hf:m.Fits) (h:m.Good) (hv:Jn m=true) (hk:m.kind=14):G8 m=some (Zc (Yk m++((kf 14).map (Z4 m)).flatten),0):=by
 obtain ⟨b0,b1,b2,b3,b4,b6,b8,b11,n5,n7,n9,n14,b5,b14,b7,b9,b10,b12,b13,k0,k1,k2,k3⟩:=Ym m h
 have e0:E0=Zc []:=rfl
 unfold G8
 rw [Y4,s16 m hf,Option.bind_some,hv,if_neg (show ¬ (!true)=true by decide),e0,s40 [] (by simp) h.kind.1 h.kind.2,Option.bind_some,s40 _ (by simp only [List.length_append,List.length_nil];omega) h.view.1 h.view.2,Option.bind_some,s40 _ (by simp only [List.length_append,List.length_nil];omega) h.frm.1 h.frm.2,Option.bind_some,s40 _ (by simp only [List.length_append,List.length_nil];omega) h.to.1 h.to.2,Option.bind_some]
 rw [if_neg (kne (show m.kind≠1 by omega))]
 rw [if_neg (kne (show m.kind≠2 by omega))]
 rw [if_neg (kne (show m.kind≠4 by omega))]
 rw [if_neg (kne (show m.kind≠5 by omega))]
 rw [if_neg (kne (show m.kind≠6 by omega))]
 rw [if_neg (kne (show m.kind≠12 by omega))]
 rw [if_neg (kne (show m.kind≠13 by omega))]
 rw [if_pos (keq hk)]
 rw [s40 _ (by simp only [List.length_append,List.length_nil];omega) h.round.1 h.round.2,Option.bind_some]
 rw [s40 _ (by simp only [List.length_append,List.length_nil];omega) h.base.1 h.base.2,Option.bind_some]
 rw [s45 _ _ (by simp only [List.length_append,List.length_nil];omega) (by omega) h.cores,Option.bind_some]
 rw [s48 _ (by simp only [List.length_append,List.length_nil];omega) _ h.next,Option.bind_some]
 rw [s47 _ (by simp only [List.length_append,List.length_nil];omega) _ h.state,Option.bind_some]
 rw [if_neg (kne (show m.kind≠2 by omega))]
 rw [if_neg (kne (show m.kind≠4 by omega))]
 simp only [Yk,kf,Z4,Zw,List.map_cons,List.map_nil,List.flatten_cons,List.flatten_nil,List.nil_append,List.append_nil,List.append_assoc]
theorem ZzK (m:Msg) (hf:m.Fits) (h:m.Good) (hv:Jn m=true) (hk:m.kind=15):G8 m=some (Zc (Yk m++((kf 15).map (Z4 m)).flatten),0):=by
 obtain ⟨b0,b1,b2,b3,b4,b6,b8,b11,n5,n7,n9,n14,b5,b14,b7,b9,b10,b12,b13,k0,k1,k2,k3⟩:=Ym m h
 have e0:E0=Zc []:=rfl
 unfold G8
 rw [Y4,s16 m hf,Option.bind_some,hv,if_neg (show ¬ (!true)=true by decide),e0,s40 [] (by simp) h.kind.1 h.kind.2,Option.bind_some,s40 _ (by simp only [List.length_append,List.length_nil];omega) h.view.1 h.view.2,Option.bind_some,s40 _ (by simp only [List.length_append,List.length_nil];omega) h.frm.1 h.frm.2,Option.bind_some,s40 _ (by simp only [List.length_append,List.length_nil];omega) h.to.1 h.to.2,Option.bind_some]
 rw [if_neg (kne (show m.kind≠1 by omega))]
 rw [if_neg (kne (show m.kind≠2 by omega))]
 rw [if_neg (kne (show m.kind≠4 by omega))]
 rw [if_neg (kne (show m.kind≠5 by omega))]
 rw [if_neg (kne (show m.kind≠6 by omega))]
 rw [if_neg (kne (show m.kind≠12 by omega))]
 rw [if_neg (kne (show m.kind≠13 by omega))]
 rw [if_neg (kne (show m.kind≠14 by omega))]
 rw [if_pos (keq hk)]
 rw [s40 _ (by simp only [List.length_append,List.length_nil];omega) h.round.1 h.round.2,Option.bind_some]
 rw [if_neg (kne (show m.kind≠2 by omega))]
 rw [if_neg (kne (show m.kind≠4 by omega))]
 simp only [Yk,kf,Z4,Zw,List.map_cons,List.map_nil,List.flatten_cons,List.flatten_nil,List.nil_append,List.append_nil,List.append_assoc]
theorem ZA3 (m:Msg) (hf:m.Fits) (h:m.Good) (hv:Jn m=true) (hk:m.kind=16):G8 m=some (Zc (Yk m++((kf 16).map (Z4 m)).flatten),0):=by
 obtain ⟨b0,b1,b2,b3,b4,b6,b8,b11,n5,n7,n9,n14,b5,b14,b7,b9,b10,b12,b13,k0,k1,k2,k3⟩:=Ym m h
 have e0:E0=Zc []:=rfl
 unfold G8
 rw [Y4,s16 m hf,Option.bind_some,hv,if_neg (show ¬ (!true)=true by decide),e0,s40 [] (by simp) h.kind.1 h.kind.2,Option.bind_some,s40 _ (by simp only [List.length_append,List.length_nil];omega) h.view.1 h.view.2,Option.bind_some,s40 _ (by simp only [List.length_append,List.length_nil];omega) h.frm.1 h.frm.2,Option.bind_some,s40 _ (by simp only [List.length_append,List.length_nil];omega) h.to.1 h.to.2,Option.bind_some]
 rw [if_neg (kne (show m.kind≠1 by omega))]
 rw [if_neg (kne (show m.kind≠2 by omega))]
 rw [if_neg (kne (show m.kind≠4 by omega))]
 rw [if_neg (kne (show m.kind≠5 by omega))]
 rw [if_neg (kne (show m.kind≠6 by omega))]
 rw [if_neg (kne (show m.kind≠12 by omega))]
 rw [if_neg (kne (show m.kind≠13 by omega))]
 rw [if_neg (kne (show m.kind≠14 by omega))]
 rw [if_neg (kne (show m.kind≠15 by omega))]
 rw [if_pos (keq hk)]
 rw [s40 _ (by simp only [List.length_append,List.length_nil];omega) h.round.1 h.round.2,Option.bind_some]
 rw [if_neg (kne (show m.kind≠2 by omega))]
 rw [if_neg (kne (show m.kind≠4 by omega))]
 simp only [Yk,kf,Z4,Zw,List.map_cons,List.map_nil,List.flatten_cons,List.flatten_nil,List.nil_append,List.append_nil,List.append_assoc]
theorem ZzD (m:Msg) (hf:m.Fits) (h:m.Good) (hv:Jn m=true) (hk:m.kind=17):G8 m=some (Zc (Yk m++((kf 17).map (Z4 m)).flatten),0):=by
 obtain ⟨b0,b1,b2,b3,b4,b6,b8,b11,n5,n7,n9,n14,b5,b14,b7,b9,b10,b12,b13,k0,k1,k2,k3⟩:=Ym m h
 have e0:E0=Zc []:=rfl
 unfold G8
 rw [Y4,s16 m hf,Option.bind_some,hv,if_neg (show ¬ (!true)=true by decide),e0,s40 [] (by simp) h.kind.1 h.kind.2,Option.bind_some,s40 _ (by simp only [List.length_append,List.length_nil];omega) h.view.1 h.view.2,Option.bind_some,s40 _ (by simp only [List.length_append,List.length_nil];omega) h.frm.1 h.frm.2,Option.bind_some,s40 _ (by simp only [List.length_append,List.length_nil];omega) h.to.1 h.to.2,Option.bind_some]
 rw [if_neg (kne (show m.kind≠1 by omega))]
 rw [if_neg (kne (show m.kind≠2 by omega))]
 rw [if_neg (kne (show m.kind≠4 by omega))]
 rw [if_neg (kne (show m.kind≠5 by omega))]
 rw [if_neg (kne (show m.kind≠6 by omega))]
 rw [if_neg (kne (show m.kind≠12 by omega))]
 rw [if_neg (kne (show m.kind≠13 by omega))]
 rw [if_neg (kne (show m.kind≠14 by omega))]
 rw [if_neg (kne (show m.kind≠15 by omega))]
 rw [if_neg (kne (show m.kind≠16 by omega))]
 rw [if_pos (keq hk)]
 rw [s45 _ _ (by simp only [List.length_append,List.length_nil];omega) (by omega) h.cores,Option.bind_some]
 rw [List.length_map,s40 _ (by simp only [List.length_append,List.length_nil];omega) (by omega) (by omega),Option.bind_some]
 rw [ZER m hk h _ (by simp only [List.length_append,List.length_nil];omega)]
 simp only [Yk,kf,Z4,Zw,List.map_cons,List.map_nil,List.flatten_cons,List.flatten_nil,List.nil_append,List.append_nil,List.append_assoc]
theorem s15 (m:Msg) (hf:m.Fits) (h:Jn m=true→m.Good):g15 m.kind m.view m.frm m.to m.round m.region m.slot m.op.core m.op.op m.op.part m.err m.settled m.req.id.core m.req.id.op m.req.id.part m.req.call.kind m.req.call.slot m.req.call.dest m.req.call.core m.req.call.mask m.req.call.object m.req.call.bits m.req.call.level m.req.call.offset m.req.call.count m.req.call.index m.req.call.addr m.req.region m.req.width m.req.src.id.core m.req.src.id.op m.req.src.id.part (Zb m.req.src.path) m.req.src.cap.kind m.req.src.cap.base m.req.src.cap.bits m.req.src.cap.rights m.req.src.cap.width m.req.src.cap.level m.req.src.cap.device (Zb m.ids) (m.nodes.map ZY) (Za m.cores) (m.moves.map ZU) m.base m.next.number (Za m.next.members) (Za m.next.owners) (m.state.slots.map Zg) (m.state.pending.map Zv) (m.state.marks.map Zh) (m.state.answers.map Zx) (m.state.entries.map Ze) (Zb m.state.commits) m.report.core m.report.view.number (Za m.report.view.members) (Za m.report.view.owners) (m.report.state.slots.map Zg) (m.report.state.pending.map Zv) (m.report.state.marks.map Zh) (m.report.state.answers.map Zx) (m.report.state.entries.map Ze) (Zb m.report.state.commits) m.report.ready m.report.next.number (Za m.report.next.members) (Za m.report.next.owners) (m.report.proposal.slots.map Zg) (m.report.proposal.pending.map Zv) (m.report.proposal.marks.map Zh) (m.report.proposal.answers.map Zx) (m.report.proposal.entries.map Ze) (Zb m.report.proposal.commits)=some (if Jn m=true then (Zc (ZuJ m),0) else (E0,1)):=by
 cases hv:Jn m with
 | false => rw [Y4, s16 m hf, Option.bind_some, hv]; rfl
 | true =>
  have hg:=h hv
  rw [if_pos rfl]
  have hk:1≤m.kind∧m.kind≤17:=by
   unfold Jn headOk kindOk at hv
   simp only [Bool.and_eq_true,decide_eq_true_eq] at hv
   exact hv.1.1.1.1
  unfold ZuJ
  rcases (show m.kind=1∨m.kind=2∨m.kind=3∨m.kind=4∨m.kind=5∨m.kind=6∨m.kind=7∨m.kind=8∨m.kind=9∨m.kind=10∨m.kind=11∨m.kind=12∨m.kind=13∨m.kind=14∨m.kind=15∨m.kind=16∨m.kind=17 by omega) with e | e | e | e | e | e | e | e | e | e | e | e | e | e | e | e | e
  ·refine (ZFf m hf hg hv e).trans ?_;rw [e];rfl
  ·refine (ZEQ m hf hg hv e).trans ?_;rw [e];rfl
  ·refine (ZEh m hf hg hv e).trans ?_;rw [e];rfl
  ·refine (ZDJ m hf hg hv e).trans ?_;rw [e];rfl
  ·refine (ZEA m hf hg hv e).trans ?_;rw [e];rfl
  ·refine (ZFe m hf hg hv e).trans ?_;rw [e];rfl
  ·refine (ZEv m hf hg hv e).trans ?_;rw [e];rfl
  ·refine (ZDI m hf hg hv e).trans ?_;rw [e];rfl
  ·refine (ZEG m hf hg hv e).trans ?_;rw [e];rfl
  ·refine (Zz8 m hf hg hv e).trans ?_;rw [e];rfl
  ·refine (ZBN m hf hg hv e).trans ?_;rw [e];rfl
  ·refine (ZzI m hf hg hv e).trans ?_;rw [e];rfl
  ·refine (ZBU m hf hg hv e).trans ?_;rw [e];rfl
  ·refine (ZBd m hf hg hv e).trans ?_;rw [e];rfl
  ·refine (ZzK m hf hg hv e).trans ?_;rw [e];rfl
  ·refine (ZA3 m hf hg hv e).trans ?_;rw [e];rfl
  ·refine (ZzD m hf hg hv e).trans ?_;rw [e];rfl
end Go.Proofs.YtjldbnbdcmfbmaaGreat
end

section
namespace Go.Proofs.YtjldbnbdcmfbmaaGreat
open Go Go.AM
set_option linter.unusedSimpArgs false
set_option linter.unusedVariables false
set_option maxRecDepth 100000
theorem ZDj {z:Int} (h:(Lit.int .i64 z).wf=true):Rng z:=by
 have h1:IntKind.i64.min = -9223372036854775808:=by decide
 have h2:IntKind.i64.max=9223372036854775807:=by decide
 have h3:(2:Int)^63=9223372036854775808:=by decide
 simp [Lit.wf,h1,h2] at h
 unfold Rng
 omega
theorem Zqq {n b:Nat} (h:n*b≤reachBytes) (hb:8≤b):n < 2^44:=by
 have h1:=reachBytes_lt
 have h2:n*8≤n*b:=Nat.mul_le_mul_left n hb
 omega
theorem ZR {d:Nat} {cs:List AV} (h:TyZ Tryz.prog (d+1) 3 cs):∃ z,cs = [I z]∧Rng z:=by
 simp only [TyZ,Tryz.underlying3] at h
 obtain ⟨z,h,hw⟩:=h
 exact ⟨z,h,ZDj hw⟩
theorem Zq8 {d:Nat} {cs:List AV} (h:TyZ Tryz.prog (d+1) 26 cs):∃ z,cs = [I z]∧Rng z:=by
 simp only [TyZ,Tryz.underlying26] at h
 obtain ⟨z,h,hw⟩:=h
 exact ⟨z,h,ZDj hw⟩
theorem ZcG {d:Nat} {cs:List AV} (h:TyZ Tryz.prog (d+1) 4 cs):∃ z,cs = [B z]:=by
 simp only [TyZ,Tryz.underlying4] at h
 exact h
theorem ZlZ {d:Nat} {cs:List AV} (h:TyZ Tryz.prog (d+2) 25 cs):∃ i:Id,cs=idc i:=by
 rw [TyZ] at h
 simp only [Tryz.underlying25] at h
 obtain ⟨ps,rfl,hl,hp⟩:=h
 obtain ⟨p0,p1,p2,rfl⟩:∃ p0 p1 p2,ps = [p0,p1,p2]:=by
  match ps,hl with
  | [p0, p1, p2], _ => exact ⟨p0, p1, p2, rfl⟩
 obtain ⟨a,rfl,ha⟩:=ZR (hp 0 _ _ rfl rfl)
 obtain ⟨b,rfl,hb⟩:=ZR (hp 1 _ _ rfl rfl)
 obtain ⟨c,rfl,hc⟩:=ZR (hp 2 _ _ rfl rfl)
 exact ⟨⟨a,b,c⟩,rfl⟩
theorem ZwC {d:Nat} {cs:List AV} (h:TyZ Tryz.prog (d+2) 31 cs):∃ k b s r w l dv,cs = [I k,I b,I s,I r,I w,I l,B dv]:=by
 rw [TyZ] at h
 simp only [Tryz.underlying31] at h
 obtain ⟨ps,rfl,hl,hp⟩:=h
 obtain ⟨p0,p1,p2,p3,p4,p5,p6,rfl⟩:∃ p0 p1 p2 p3 p4 p5 p6,ps = [p0,p1,p2,p3,p4,p5,p6]:=by
  match ps,hl with
  | [p0, p1, p2, p3, p4, p5, p6], _ => exact ⟨p0, p1, p2, p3, p4, p5, p6, rfl⟩
 obtain ⟨k,rfl,_⟩:=ZR (hp 0 _ _ rfl rfl)
 obtain ⟨b,rfl,_⟩:=ZR (hp 1 _ _ rfl rfl)
 obtain ⟨s,rfl,_⟩:=ZR (hp 2 _ _ rfl rfl)
 obtain ⟨r,rfl,_⟩:=ZR (hp 3 _ _ rfl rfl)
 obtain ⟨w,rfl,_⟩:=ZR (hp 4 _ _ rfl rfl)
 obtain ⟨l,rfl,_⟩:=ZR (hp 5 _ _ rfl rfl)
 obtain ⟨dv,rfl⟩:=ZcG (hp 6 _ _ rfl rfl)
 exact ⟨k,b,s,r,w,l,dv,rfl⟩
theorem ZtR {d:Nat} {cs:List AV} (h:TyZ Tryz.prog (d+2) 28 cs):∃ c:Call,cs=ZBI c∧∀ z∈Yr c,Rng z:=by
 rw [TyZ] at h
 simp only [Tryz.underlying28] at h
 obtain ⟨ps,rfl,hl,hp⟩:=h
 obtain ⟨p0,p1,p2,p3,p4,p5,p6,p7,p8,p9,p10,p11,rfl⟩:∃ p0 p1 p2 p3 p4 p5 p6 p7 p8 p9 p10 p11,ps = [p0,p1,p2,p3,p4,p5,p6,p7,p8,p9,p10,p11]:=by
  match ps,hl with
  | [p0, p1, p2, p3, p4, p5, p6, p7, p8, p9, p10, p11], _ => exact ⟨p0, p1, p2, p3, p4, p5, p6, p7, p8, p9, p10, p11, rfl⟩
 obtain ⟨z0,rfl,h0⟩:=ZR (hp 0 _ _ rfl rfl)
 obtain ⟨z1,rfl,h1⟩:=ZR (hp 1 _ _ rfl rfl)
 obtain ⟨z2,rfl,h2⟩:=ZR (hp 2 _ _ rfl rfl)
 obtain ⟨z3,rfl,h3⟩:=ZR (hp 3 _ _ rfl rfl)
 obtain ⟨z4,rfl,h4⟩:=ZR (hp 4 _ _ rfl rfl)
 obtain ⟨z5,rfl,h5⟩:=ZR (hp 5 _ _ rfl rfl)
 obtain ⟨z6,rfl,h6⟩:=ZR (hp 6 _ _ rfl rfl)
 obtain ⟨z7,rfl,h7⟩:=ZR (hp 7 _ _ rfl rfl)
 obtain ⟨z8,rfl,h8⟩:=ZR (hp 8 _ _ rfl rfl)
 obtain ⟨z9,rfl,h9⟩:=ZR (hp 9 _ _ rfl rfl)
 obtain ⟨z10,rfl,h10⟩:=ZR (hp 10 _ _ rfl rfl)
 obtain ⟨z11,rfl,h11⟩:=ZR (hp 11 _ _ rfl rfl)
 exact ⟨⟨z0,z1,z2,z3,z4,z5,z6,z7,z8,z9,z10,z11⟩,rfl,fun z hz=>by
  simp only [Yr,List.mem_cons,List.not_mem_nil,or_false] at hz
  rcases hz with rfl | rfl | rfl | rfl | rfl | rfl | rfl | rfl | rfl | rfl | rfl | rfl<;>assumption⟩
theorem Zv6:Tryz.prog.cellsOf 25=3:=by kernel_rfl
theorem ZuS:8≤Tryz.prog.bytesOf 25:=by
 have:decide (8≤Tryz.prog.bytesOf 25)=true:=by kernel_rfl
 exact of_decide_eq_true this
theorem ZnC {d:Nat} {cs:List AV} (h:TyZ Tryz.prog (d+3) 29 cs):∃ l:List Id,cs = [.slice false 3 (Zb l)]∧l.length < 2^44∧∀ x∈l,True:=by
 rw [TyZ] at h
 simp only [Tryz.underlying29,Zv6] at h
 obtain ⟨xs,h1,h0,h2,h3⟩:=h
 obtain ⟨l,rfl,h5⟩:=Yf (f:=idc) (p:=fun x=>True) xs fun y hy=>by
  obtain ⟨i,hi⟩:=ZlZ (h3 y hy)
  exact ⟨i,hi,trivial⟩
 exact ⟨l,h1,Zqq (by simpa using h0) ZuS,h5⟩
theorem Zmp:Tryz.prog.cellsOf 3=1:=by kernel_rfl
theorem Zsn:8≤Tryz.prog.bytesOf 3:=by
 have:decide (8≤Tryz.prog.bytesOf 3)=true:=by kernel_rfl
 exact of_decide_eq_true this
theorem Zjn {d:Nat} {cs:List AV} (h:TyZ Tryz.prog (d+2) 22 cs):∃ l:List Int,cs = [.slice false 1 (Za l)]∧l.length < 2^44∧∀ x∈l,True:=by
 rw [TyZ] at h
 simp only [Tryz.underlying22,Zmp] at h
 obtain ⟨xs,h1,h0,h2,h3⟩:=h
 obtain ⟨l,rfl,h5⟩:=Yf (f:=Wx) (p:=fun x=>True) xs fun y hy=>by
  obtain ⟨i,hi,_⟩:=ZR (h3 y hy)
  exact ⟨i,hi,trivial⟩
 exact ⟨l,h1,Zqq (by simpa using h0) Zsn,h5⟩
theorem ZfH {d:Nat} {cs:List AV} (h:TyZ Tryz.prog (d+4) 33 cs):∃ n:Yz,cs=ZY n∧n.path.length < 2^44:=by
 rw [TyZ] at h
 simp only [Tryz.underlying33] at h
 obtain ⟨ps,rfl,hl,hp⟩:=h
 obtain ⟨p0,p1,p2,rfl⟩:∃ p0 p1 p2,ps = [p0,p1,p2]:=by
  match ps,hl with
  | [p0, p1, p2], _ => exact ⟨p0, p1, p2, rfl⟩
 obtain ⟨i,rfl⟩:=ZlZ (hp 0 _ _ rfl rfl)
 obtain ⟨l,rfl,hl2,_⟩:=ZnC (hp 1 _ _ rfl rfl)
 obtain ⟨k,b,s,r,w,lv,dv,rfl⟩:=ZwC (hp 2 _ _ rfl rfl)
 exact ⟨⟨i,l,⟨k,b,s,r,w,lv,dv⟩⟩,rfl,hl2⟩
theorem Zrx {d:Nat} {cs:List AV} (h:TyZ Tryz.prog (d+5) 35 cs):∃ r:Req,cs=Zv r∧r.src.path.length < 2^44∧∀ z∈Yr r.call,Rng z:=by
 rw [TyZ] at h
 simp only [Tryz.underlying35] at h
 obtain ⟨ps,rfl,hl,hp⟩:=h
 obtain ⟨p0,p1,p2,p3,p4,rfl⟩:∃ p0 p1 p2 p3 p4,ps = [p0,p1,p2,p3,p4]:=by
  match ps,hl with
  | [p0, p1, p2, p3, p4], _ => exact ⟨p0, p1, p2, p3, p4, rfl⟩
 obtain ⟨i,rfl⟩:=ZlZ (hp 0 _ _ rfl rfl)
 obtain ⟨c,rfl,hc⟩:=ZtR (hp 1 _ _ rfl rfl)
 obtain ⟨a,rfl,_⟩:=ZR (hp 2 _ _ rfl rfl)
 obtain ⟨b,rfl,_⟩:=ZR (hp 3 _ _ rfl rfl)
 obtain ⟨n,rfl,hn⟩:=ZfH (hp 4 _ _ rfl rfl)
 exact ⟨⟨i,c,a,b,n⟩,rfl,hn,hc⟩
theorem ZrX {d:Nat} {cs:List AV} (h:TyZ Tryz.prog (d+5) 135 cs):∃ s:Kx,cs=Zg s∧s.node.path.length < 2^44:=by
 rw [TyZ] at h
 simp only [Tryz.underlying135] at h
 obtain ⟨ps,rfl,hl,hp⟩:=h
 obtain ⟨p0,p1,p2,rfl⟩:∃ p0 p1 p2,ps = [p0,p1,p2]:=by
  match ps,hl with
  | [p0, p1, p2], _ => exact ⟨p0, p1, p2, rfl⟩
 obtain ⟨n,rfl,hn⟩:=ZfH (hp 0 _ _ rfl rfl)
 obtain ⟨a,rfl,_⟩:=ZR (hp 1 _ _ rfl rfl)
 obtain ⟨i,rfl⟩:=ZlZ (hp 2 _ _ rfl rfl)
 exact ⟨⟨n,a,i⟩,rfl,hn⟩
theorem ZpR {d:Nat} {cs:List AV} (h:TyZ Tryz.prog (d+5) 71 cs):∃ s:ZI,cs=Ze s∧s.node.path.length < 2^44:=by
 rw [TyZ] at h
 simp only [Tryz.underlying71] at h
 obtain ⟨ps,rfl,hl,hp⟩:=h
 obtain ⟨p0,p1,p2,rfl⟩:∃ p0 p1 p2,ps = [p0,p1,p2]:=by
  match ps,hl with
  | [p0, p1, p2], _ => exact ⟨p0, p1, p2, rfl⟩
 obtain ⟨a,rfl,_⟩:=ZR (hp 0 _ _ rfl rfl)
 obtain ⟨b,rfl,_⟩:=ZR (hp 1 _ _ rfl rfl)
 obtain ⟨n,rfl,hn⟩:=ZfH (hp 2 _ _ rfl rfl)
 exact ⟨⟨a,b,n⟩,rfl,hn⟩
theorem ZrL {d:Nat} {cs:List AV} (h:TyZ Tryz.prog (d+5) 145 cs):∃ m:Zcm,cs=Zh m:=by
 rw [TyZ] at h
 simp only [Tryz.underlying145] at h
 obtain ⟨ps,rfl,hl,hp⟩:=h
 obtain ⟨p0,p1,rfl⟩:∃ p0 p1,ps = [p0,p1]:=by
  match ps,hl with
  | [p0, p1], _ => exact ⟨p0, p1, rfl⟩
 obtain ⟨a,rfl,_⟩:=ZR (hp 0 _ _ rfl rfl)
 obtain ⟨i,rfl⟩:=ZlZ (hp 1 _ _ rfl rfl)
 exact ⟨⟨a,i⟩,rfl⟩
theorem Zwc {d:Nat} {cs:List AV} (h:TyZ Tryz.prog (d+5) 147 cs):∃ m:Ans,cs=Zx m:=by
 rw [TyZ] at h
 simp only [Tryz.underlying147] at h
 obtain ⟨ps,rfl,hl,hp⟩:=h
 obtain ⟨p0,p1,rfl⟩:∃ p0 p1,ps = [p0,p1]:=by
  match ps,hl with
  | [p0, p1], _ => exact ⟨p0, p1, rfl⟩
 obtain ⟨a,rfl,_⟩:=ZR (hp 0 _ _ rfl rfl)
 obtain ⟨b,rfl,_⟩:=Zq8 (hp 1 _ _ rfl rfl)
 exact ⟨⟨a,b⟩,rfl⟩
theorem Zti {d:Nat} {cs:List AV} (h:TyZ Tryz.prog (d+5) 81 cs):∃ m:ZeG,cs=ZU m:=by
 rw [TyZ] at h
 simp only [Tryz.underlying81] at h
 obtain ⟨ps,rfl,hl,hp⟩:=h
 obtain ⟨p0,p1,rfl⟩:∃ p0 p1,ps = [p0,p1]:=by
  match ps,hl with
  | [p0, p1], _ => exact ⟨p0, p1, rfl⟩
 obtain ⟨a,rfl,_⟩:=ZR (hp 0 _ _ rfl rfl)
 obtain ⟨b,rfl,_⟩:=ZR (hp 1 _ _ rfl rfl)
 exact ⟨⟨a,b⟩,rfl⟩
theorem ZpW:Tryz.prog.cellsOf 33=11:=by kernel_rfl
theorem ZoX:8≤Tryz.prog.bytesOf 33:=by
 have:decide (8≤Tryz.prog.bytesOf 33)=true:=by kernel_rfl
 exact of_decide_eq_true this
theorem Zpj {d:Nat} {cs:List AV} (h:TyZ Tryz.prog (d+5) 36 cs):∃ l:List Yz,cs = [.slice false 11 (l.map ZY)]∧l.length < 2^44∧∀ x∈l,x.path.length < 2^44:=by
 rw [TyZ] at h
 simp only [Tryz.underlying36,ZpW] at h
 obtain ⟨xs,h1,h0,h2,h3⟩:=h
 obtain ⟨l,rfl,h5⟩:=Yf (f:=ZY) (p:=fun x=>x.path.length < 2^44) xs fun y hy=>by
  obtain ⟨i,hi,hj⟩:=ZfH (h3 y hy)
  exact ⟨i,hi,hj⟩
 exact ⟨l,h1,Zqq (by simpa using h0) ZoX,h5⟩
theorem Zq0:Tryz.prog.cellsOf 81=2:=by kernel_rfl
theorem ZqO:8≤Tryz.prog.bytesOf 81:=by
 have:decide (8≤Tryz.prog.bytesOf 81)=true:=by kernel_rfl
 exact of_decide_eq_true this
theorem ZqI {d:Nat} {cs:List AV} (h:TyZ Tryz.prog (d+6) 37 cs):∃ l:List ZeG,cs = [.slice false 2 (l.map ZU)]∧l.length < 2^44∧∀ x∈l,True:=by
 rw [TyZ] at h
 simp only [Tryz.underlying37,Zq0] at h
 obtain ⟨xs,h1,h0,h2,h3⟩:=h
 obtain ⟨l,rfl,h5⟩:=Yf (f:=ZU) (p:=fun x=>True) xs fun y hy=>by
  obtain ⟨i,hi⟩:=Zti (h3 y hy)
  exact ⟨i,hi,trivial⟩
 exact ⟨l,h1,Zqq (by simpa using h0) ZqO,h5⟩
theorem ZpP:Tryz.prog.cellsOf 135=15:=by kernel_rfl
theorem Zp7:8≤Tryz.prog.bytesOf 135:=by
 have:decide (8≤Tryz.prog.bytesOf 135)=true:=by kernel_rfl
 exact of_decide_eq_true this
theorem Zo8 {d:Nat} {cs:List AV} (h:TyZ Tryz.prog (d+6) 40 cs):∃ l:List Kx,cs = [.slice false 15 (l.map Zg)]∧l.length < 2^44∧∀ x∈l,x.node.path.length < 2^44:=by
 rw [TyZ] at h
 simp only [Tryz.underlying40,ZpP] at h
 obtain ⟨xs,h1,h0,h2,h3⟩:=h
 obtain ⟨l,rfl,h5⟩:=Yf (f:=Zg) (p:=fun x=>x.node.path.length < 2^44) xs fun y hy=>by
  obtain ⟨i,hi,hj⟩:=ZrX (h3 y hy)
  exact ⟨i,hi,hj⟩
 exact ⟨l,h1,Zqq (by simpa using h0) Zp7,h5⟩
theorem Zt7:Tryz.prog.cellsOf 35=28:=by kernel_rfl
theorem Zum:8≤Tryz.prog.bytesOf 35:=by
 have:decide (8≤Tryz.prog.bytesOf 35)=true:=by kernel_rfl
 exact of_decide_eq_true this
theorem ZsX {d:Nat} {cs:List AV} (h:TyZ Tryz.prog (d+6) 41 cs):∃ l:List Req,cs = [.slice false 28 (l.map Zv)]∧l.length < 2^44∧∀ x∈l,x.src.path.length < 2^44∧∀ z∈Yr x.call,Rng z:=by
 rw [TyZ] at h
 simp only [Tryz.underlying41,Zt7] at h
 obtain ⟨xs,h1,h0,h2,h3⟩:=h
 obtain ⟨l,rfl,h5⟩:=Yf (f:=Zv) (p:=fun x=>x.src.path.length < 2^44∧∀ z∈Yr x.call,Rng z) xs fun y hy=>by
  obtain ⟨i,hi,hj⟩:=Zrx (h3 y hy)
  exact ⟨i,hi,hj⟩
 exact ⟨l,h1,Zqq (by simpa using h0) Zum,h5⟩
theorem Zqr:Tryz.prog.cellsOf 145=4:=by kernel_rfl
theorem Zqk:8≤Tryz.prog.bytesOf 145:=by
 have:decide (8≤Tryz.prog.bytesOf 145)=true:=by kernel_rfl
 exact of_decide_eq_true this
theorem Zpl {d:Nat} {cs:List AV} (h:TyZ Tryz.prog (d+6) 42 cs):∃ l:List Zcm,cs = [.slice false 4 (l.map Zh)]∧l.length < 2^44∧∀ x∈l,True:=by
 rw [TyZ] at h
 simp only [Tryz.underlying42,Zqr] at h
 obtain ⟨xs,h1,h0,h2,h3⟩:=h
 obtain ⟨l,rfl,h5⟩:=Yf (f:=Zh) (p:=fun x=>True) xs fun y hy=>by
  obtain ⟨i,hi⟩:=ZrL (h3 y hy)
  exact ⟨i,hi,trivial⟩
 exact ⟨l,h1,Zqq (by simpa using h0) Zqk,h5⟩
theorem Ztt:Tryz.prog.cellsOf 147=2:=by kernel_rfl
theorem Zui:8≤Tryz.prog.bytesOf 147:=by
 have:decide (8≤Tryz.prog.bytesOf 147)=true:=by kernel_rfl
 exact of_decide_eq_true this
theorem ZtQ {d:Nat} {cs:List AV} (h:TyZ Tryz.prog (d+6) 43 cs):∃ l:List Ans,cs = [.slice false 2 (l.map Zx)]∧l.length < 2^44∧∀ x∈l,True:=by
 rw [TyZ] at h
 simp only [Tryz.underlying43,Ztt] at h
 obtain ⟨xs,h1,h0,h2,h3⟩:=h
 obtain ⟨l,rfl,h5⟩:=Yf (f:=Zx) (p:=fun x=>True) xs fun y hy=>by
  obtain ⟨i,hi⟩:=Zwc (h3 y hy)
  exact ⟨i,hi,trivial⟩
 exact ⟨l,h1,Zqq (by simpa using h0) Zui,h5⟩
theorem ZlD:Tryz.prog.cellsOf 71=13:=by kernel_rfl
theorem ZlX:8≤Tryz.prog.bytesOf 71:=by
 have:decide (8≤Tryz.prog.bytesOf 71)=true:=by kernel_rfl
 exact of_decide_eq_true this
theorem ZlA {d:Nat} {cs:List AV} (h:TyZ Tryz.prog (d+6) 44 cs):∃ l:List ZI,cs = [.slice false 13 (l.map Ze)]∧l.length < 2^44∧∀ x∈l,x.node.path.length < 2^44:=by
 rw [TyZ] at h
 simp only [Tryz.underlying44,ZlD] at h
 obtain ⟨xs,h1,h0,h2,h3⟩:=h
 obtain ⟨l,rfl,h5⟩:=Yf (f:=Ze) (p:=fun x=>x.node.path.length < 2^44) xs fun y hy=>by
  obtain ⟨i,hi,hj⟩:=ZpR (h3 y hy)
  exact ⟨i,hi,hj⟩
 exact ⟨l,h1,Zqq (by simpa using h0) ZlX,h5⟩
structure JW.Sized (s:JW):Prop where
 slots:s.slots.length < 2^44
 pending:s.pending.length < 2^44
 marks:s.marks.length < 2^44
 answers:s.answers.length < 2^44
 entries:s.entries.length < 2^44
 commits:s.commits.length < 2^44
 slot:∀ x∈s.slots,x.node.path.length < 2^44
 req:∀ x∈s.pending,x.src.path.length < 2^44∧∀ z∈Yr x.call,Rng z
 entry:∀ x∈s.entries,x.node.path.length < 2^44
structure V7.Sized (v:V7):Prop where
 members:v.members.length < 2^44
 owners:v.owners.length < 2^44
structure JF.Sized (r:JF):Prop where
 view:r.view.Sized
 state:r.state.Sized
 next:r.next.Sized
 proposal:r.proposal.Sized
structure Msg.Sized (m:Msg):Prop where
 req:m.req.src.path.length < 2^44
 call:∀ z∈Yr m.req.call,Rng z
 ids:m.ids.length < 2^44
 nodes:m.nodes.length < 2^44
 node:∀ x∈m.nodes,x.path.length < 2^44
 cores:m.cores.length < 2^44
 moves:m.moves.length < 2^44
 next:m.next.Sized
 state:m.state.Sized
 report:m.report.Sized
theorem Zch {n:Nat} (h:n < 2^44):n < 2^63:=by omega
theorem JW.Sized.fits {s:JW} (h:s.Sized):s.Fits:=⟨Zch h.slots,Zch h.pending,Zch h.marks,Zch h.answers,Zch h.entries,Zch h.commits,fun x hx=>Zch (h.slot x hx),fun x hx=>Zch (h.req x hx).1,fun x hx=>Zch (h.entry x hx)⟩
theorem V7.Sized.fits {v:V7} (h:v.Sized):v.Fits:=⟨Zch h.members,Zch h.owners⟩
theorem JF.Sized.fits {r:JF} (h:r.Sized):r.Fits:=⟨h.view.fits,h.state.fits,h.next.fits,h.proposal.fits⟩
theorem Msg.Sized.fits {m:Msg} (h:m.Sized):m.Fits:=⟨Zch h.req,Zch h.ids,Zch h.nodes,fun x hx=>Zch (h.node x hx),Zch h.cores,Zch h.moves,h.next.fits,h.state.fits,h.report.fits⟩
theorem ZiC {d:Nat} {cs:List AV} (h:TyZ Tryz.prog (d+3) 39 cs):∃ v:V7,cs=Zpq v∧v.Sized:=by
 rw [TyZ] at h
 simp only [Tryz.underlying39] at h
 obtain ⟨ps,rfl,hl,hp⟩:=h
 obtain ⟨p0,p1,p2,rfl⟩:∃ p0 p1 p2,ps = [p0,p1,p2]:=by
  match ps,hl with
  | [p0, p1, p2], _ => exact ⟨p0, p1, p2, rfl⟩
 obtain ⟨n,rfl,_⟩:=ZR (hp 0 _ _ rfl rfl)
 obtain ⟨a,rfl,ha,_⟩:=Zjn (hp 1 _ _ rfl rfl)
 obtain ⟨b,rfl,hb,_⟩:=Zjn (hp 2 _ _ rfl rfl)
 exact ⟨⟨n,a,b⟩,rfl,⟨ha,hb⟩⟩
theorem ZfM {d:Nat} {cs:List AV} (h:TyZ Tryz.prog (d+7) 46 cs):∃ s:JW,cs=Zkp s∧s.Sized:=by
 rw [TyZ] at h
 simp only [Tryz.underlying46] at h
 obtain ⟨ps,rfl,hl,hp⟩:=h
 obtain ⟨p0,p1,p2,p3,p4,p5,rfl⟩:∃ p0 p1 p2 p3 p4 p5,ps = [p0,p1,p2,p3,p4,p5]:=by
  match ps,hl with
  | [p0, p1, p2, p3, p4, p5], _ => exact ⟨p0, p1, p2, p3, p4, p5, rfl⟩
 obtain ⟨a,rfl,a1,a2⟩:=Zo8 (hp 0 _ _ rfl rfl)
 obtain ⟨b,rfl,b1,b2⟩:=ZsX (hp 1 _ _ rfl rfl)
 obtain ⟨c,rfl,c1,_⟩:=Zpl (hp 2 _ _ rfl rfl)
 obtain ⟨e,rfl,e1,_⟩:=ZtQ (hp 3 _ _ rfl rfl)
 obtain ⟨f,rfl,f1,f2⟩:=ZlA (hp 4 _ _ rfl rfl)
 obtain ⟨g,rfl,g1,_⟩:=ZnC (hp 5 _ _ rfl rfl)
 exact ⟨⟨a,b,c,e,f,g⟩,rfl,⟨a1,b1,c1,e1,f1,g1,a2,b2,f2⟩⟩
theorem ZmW {d:Nat} {cs:List AV} (h:TyZ Tryz.prog (d+8) 48 cs):∃ r:JF,cs=Zio r∧r.Sized:=by
 rw [TyZ] at h
 simp only [Tryz.underlying48] at h
 obtain ⟨ps,rfl,hl,hp⟩:=h
 obtain ⟨p0,p1,p2,p3,p4,p5,rfl⟩:∃ p0 p1 p2 p3 p4 p5,ps = [p0,p1,p2,p3,p4,p5]:=by
  match ps,hl with
  | [p0, p1, p2, p3, p4, p5], _ => exact ⟨p0, p1, p2, p3, p4, p5, rfl⟩
 obtain ⟨n,rfl,_⟩:=ZR (hp 0 _ _ rfl rfl)
 obtain ⟨v,rfl,hv⟩:=ZiC (hp 1 _ _ rfl rfl)
 obtain ⟨s,rfl,hs⟩:=ZfM (hp 2 _ _ rfl rfl)
 obtain ⟨b,rfl⟩:=ZcG (hp 3 _ _ rfl rfl)
 obtain ⟨w,rfl,hw⟩:=ZiC (hp 4 _ _ rfl rfl)
 obtain ⟨t,rfl,ht⟩:=ZfM (hp 5 _ _ rfl rfl)
 exact ⟨⟨n,v,s,b,w,t⟩,by simp [Zio],⟨hv,hs,hw,ht⟩⟩
theorem Zw7 {d:Nat} {cs:List AV} (h:TyZ Tryz.prog (d+10) 50 cs):∃ m:Msg,cs=ZyE m∧m.Sized:=by
 rw [TyZ] at h
 simp only [Tryz.underlying50] at h
 obtain ⟨ps,rfl,hl,hp⟩:=h
 obtain ⟨p0,p1,p2,p3,p4,p5,p6,p7,p8,p9,p10,p11,p12,p13,p14,p15,p16,p17,p18,rfl⟩:∃ p0 p1 p2 p3 p4 p5 p6 p7 p8 p9 p10 p11 p12 p13 p14 p15 p16 p17 p18,ps = [p0,p1,p2,p3,p4,p5,p6,p7,p8,p9,p10,p11,p12,p13,p14,p15,p16,p17,p18]:=by
  match ps,hl with
  | [p0, p1, p2, p3, p4, p5, p6, p7, p8, p9, p10, p11, p12, p13, p14, p15, p16, p17, p18], _ => exact ⟨p0, p1, p2, p3, p4, p5, p6, p7, p8, p9, p10, p11, p12, p13, p14, p15, p16, p17, p18, rfl⟩
 obtain ⟨k0,rfl,_⟩:=ZR (hp 0 _ _ rfl rfl)
 obtain ⟨k1,rfl,_⟩:=ZR (hp 1 _ _ rfl rfl)
 obtain ⟨k2,rfl,_⟩:=ZR (hp 2 _ _ rfl rfl)
 obtain ⟨k3,rfl,_⟩:=ZR (hp 3 _ _ rfl rfl)
 obtain ⟨k4,rfl,_⟩:=ZR (hp 4 _ _ rfl rfl)
 obtain ⟨k5,rfl,_⟩:=ZR (hp 5 _ _ rfl rfl)
 obtain ⟨k6,rfl,_⟩:=ZR (hp 6 _ _ rfl rfl)
 obtain ⟨op,rfl⟩:=ZlZ (hp 7 _ _ rfl rfl)
 obtain ⟨e,rfl,_⟩:=Zq8 (hp 8 _ _ rfl rfl)
 obtain ⟨st,rfl⟩:=ZcG (hp 9 _ _ rfl rfl)
 obtain ⟨r,rfl,hr,hc⟩:=Zrx (hp 10 _ _ rfl rfl)
 obtain ⟨l1,rfl,h1,_⟩:=ZnC (hp 11 _ _ rfl rfl)
 obtain ⟨l2,rfl,h2,h2b⟩:=Zpj (hp 12 _ _ rfl rfl)
 obtain ⟨l3,rfl,h3,_⟩:=Zjn (hp 13 _ _ rfl rfl)
 obtain ⟨l4,rfl,h4,_⟩:=ZqI (hp 14 _ _ rfl rfl)
 obtain ⟨bs,rfl,_⟩:=ZR (hp 15 _ _ rfl rfl)
 obtain ⟨nx,rfl,hn⟩:=ZiC (hp 16 _ _ rfl rfl)
 obtain ⟨ss,rfl,hs⟩:=ZfM (hp 17 _ _ rfl rfl)
 obtain ⟨rp,rfl,hp2⟩:=ZmW (hp 18 _ _ rfl rfl)
 exact ⟨⟨k0,k1,k2,k3,k4,k5,k6,op,e,st,r,l1,l2,l3,l4,bs,nx,ss,rp⟩,by simp [ZyE,idc],⟨hr,hc,h1,h2,h2b,h3,h4,hn,hs,hp2⟩⟩
end Go.Proofs.YtjldbnbdcmfbmaaGreat
end

section
namespace Go.Proofs.YtjldbnbdcmfbmaaGreat
open Go Go.AM
set_option linter.unusedSimpArgs false
set_option linter.unusedVariables false
set_option maxRecDepth 100000
theorem s20 (s:JW) (h:s.Fits):∃ b,g20 (s.slots.map Zg) (s.pending.map Zv) (s.marks.map Zh) (s.answers.map Zx) (s.entries.map Ze) (Zb s.commits)=some b:=by
 have l0:∀ acc,∃ b,Zjg Zr (s.slots.map Zg) (s.pending.map Zv) (s.marks.map Zh) (s.answers.map Zx) (s.entries.map Ze) (Zb s.commits) acc 0=some b:=by
  intro acc
  refine Zfx (F:=fun k acc i=>Zjg k (s.slots.map Zg) (s.pending.map Zv) (s.marks.map Zh) (s.answers.map Zx) (s.entries.map Ze) (Zb s.commits) acc i) h.entries (fun k acc i hi=>?_) (fun k acc i hi=>?_) acc
  ·refine ⟨iop .add .i64 acc (List.length (Zb s.entries[i].node.path):Int),?_⟩
   show Zjg (k+1) _ _ _ _ _ _ _ _=_
   rw [ZkD,List.length_map,if_pos (ZQ hi)]
   refine (Zq hi _).trans ?_
   simp only [J8,Zmk,Zbt,d2,d4,d8,d16]
   rw [ZN hi h.entries]
  ·show ∃ r,Zjg (k+1) _ _ _ _ _ _ _ _=some r
   rw [ZkD,List.length_map,if_neg (ZT hi)]
   exact ⟨_,rfl⟩
 have l1:∀ acc,∃ b,Zjb Zr (s.slots.map Zg) (s.pending.map Zv) (s.marks.map Zh) (s.answers.map Zx) (s.entries.map Ze) (Zb s.commits) acc 0=some b:=by
  intro acc
  refine Zfx (F:=fun k acc i=>Zjb k (s.slots.map Zg) (s.pending.map Zv) (s.marks.map Zh) (s.answers.map Zx) (s.entries.map Ze) (Zb s.commits) acc i) h.pending (fun k acc i hi=>?_) (fun k acc i hi=>?_) acc
  ·refine ⟨iop .add .i64 acc (List.length (Zb s.pending[i].src.path):Int),?_⟩
   show Zjb (k+1) _ _ _ _ _ _ _ _=_
   rw [ZjU,List.length_map,if_pos (ZQ hi)]
   refine (Jz hi _).trans ?_
   simp only [J8,Zmk,Zbt,d2,d4,d8,d16]
   rw [ZN hi h.pending]
  ·show ∃ r,Zjb (k+1) _ _ _ _ _ _ _ _=some r
   rw [ZjU,List.length_map,if_neg (ZT hi)]
   exact l0 acc
 have l2:∀ acc,∃ b,ZiE Zr (s.slots.map Zg) (s.pending.map Zv) (s.marks.map Zh) (s.answers.map Zx) (s.entries.map Ze) (Zb s.commits) acc 0=some b:=by
  intro acc
  refine Zfx (F:=fun k acc i=>ZiE k (s.slots.map Zg) (s.pending.map Zv) (s.marks.map Zh) (s.answers.map Zx) (s.entries.map Ze) (Zb s.commits) acc i) h.slots (fun k acc i hi=>?_) (fun k acc i hi=>?_) acc
  ·refine ⟨iop .add .i64 acc (List.length (Zb s.slots[i].node.path):Int),?_⟩
   show ZiE (k+1) _ _ _ _ _ _ _ _=_
   rw [ZkU,List.length_map,if_pos (ZQ hi)]
   refine (Jl hi _).trans ?_
   simp only [J8,Zmk,Zbt,d2,d4,d8,d16]
   rw [ZN hi h.slots]
  ·show ∃ r,ZiE (k+1) _ _ _ _ _ _ _ _=some r
   rw [ZkU,List.length_map,if_neg (ZT hi)]
   exact l1 acc
 rw [Zrt]
 split
 ·exact ⟨_,rfl⟩
 ·exact l2 _
end Go.Proofs.YtjldbnbdcmfbmaaGreat
end

section
namespace Go.Proofs.YtjldbnbdcmfbmaaGreat
open Go Go.AM
set_option linter.unusedSimpArgs false
set_option linter.unusedVariables false
set_option maxRecDepth 100000
structure JW.Short (s:JW):Prop where
 slots:s.slots.length≤2000000
 pending:s.pending.length≤2000000
 marks:s.marks.length≤2000000
 answers:s.answers.length≤2000000
 entries:s.entries.length≤2000000
 commits:s.commits.length≤2000000
theorem ZBk (s:JW) (h:s.Sized):∃ b,g20 (s.slots.map Zg) (s.pending.map Zv) (s.marks.map Zh) (s.answers.map Zx) (s.entries.map Ze) (Zb s.commits)=some b∧(b=true→s.Short):=by
 obtain ⟨b,hb⟩:=s20 s h.fits
 refine ⟨b,hb,fun ht=>?_⟩
 have a1:=h.slots
 have a2:=h.pending
 have a3:=h.marks
 have a4:=h.answers
 have a5:=h.entries
 have a6:=h.commits
 rw [Zrt] at hb
 simp only [List.length_map,ZJ] at hb
 rw [JC (a:=(s.slots.length:Int)) (b:=(s.pending.length:Int)) (by omega) (by omega),JC (b:=(s.marks.length:Int)) (by omega) (by omega),JC (b:=(s.answers.length:Int)) (by omega) (by omega),JC (b:=(s.entries.length:Int)) (by omega) (by omega),JC (b:=(s.commits.length:Int)) (by omega) (by omega)] at hb
 by_cases hc:(cop .gtr ((s.slots.length:Int)+s.pending.length+s.marks.length+s.answers.length+s.entries.length+s.commits.length) 80)=true
 ·rw [if_pos hc,ht] at hb
  cases hb
 ·simp only [CQ] at hc
  exact ⟨by omega,by omega,by omega,by omega,by omega,by omega⟩
structure Msg.Short (m:Msg):Prop where
 ids:m.ids.length≤2000000
 nodes:m.nodes.length≤2000000
 cores:m.cores.length≤2000000
 moves:m.moves.length≤2000000
 nm:m.next.members.length≤2000000
 no:m.next.owners.length≤2000000
 rvm:m.report.view.members.length≤2000000
 rvo:m.report.view.owners.length≤2000000
 rnm:m.report.next.members.length≤2000000
 rno:m.report.next.owners.length≤2000000
 state:m.state.Short
 rs:m.report.state.Short
 rp:m.report.proposal.Short
theorem s8 (m:Msg) (h:m.Sized):∃ b,g8 m.kind m.view m.frm m.to m.round m.region m.slot m.op.core m.op.op m.op.part m.err m.settled m.req.id.core m.req.id.op m.req.id.part m.req.call.kind m.req.call.slot m.req.call.dest m.req.call.core m.req.call.mask m.req.call.object m.req.call.bits m.req.call.level m.req.call.offset m.req.call.count m.req.call.index m.req.call.addr m.req.region m.req.width m.req.src.id.core m.req.src.id.op m.req.src.id.part (Zb m.req.src.path) m.req.src.cap.kind m.req.src.cap.base m.req.src.cap.bits m.req.src.cap.rights m.req.src.cap.width m.req.src.cap.level m.req.src.cap.device (Zb m.ids) (m.nodes.map ZY) (Za m.cores) (m.moves.map ZU) m.base m.next.number (Za m.next.members) (Za m.next.owners) (m.state.slots.map Zg) (m.state.pending.map Zv) (m.state.marks.map Zh) (m.state.answers.map Zx) (m.state.entries.map Ze) (Zb m.state.commits) m.report.core m.report.view.number (Za m.report.view.members) (Za m.report.view.owners) (m.report.state.slots.map Zg) (m.report.state.pending.map Zv) (m.report.state.marks.map Zh) (m.report.state.answers.map Zx) (m.report.state.entries.map Ze) (Zb m.report.state.commits) m.report.ready m.report.next.number (Za m.report.next.members) (Za m.report.next.owners) (m.report.proposal.slots.map Zg) (m.report.proposal.pending.map Zv) (m.report.proposal.marks.map Zh) (m.report.proposal.answers.map Zx) (m.report.proposal.entries.map Ze) (Zb m.report.proposal.commits)=some b∧(b=true→m.Short):=by
 obtain ⟨b1,e1,f1⟩:=ZBk m.state h.state
 obtain ⟨b2,e2,f2⟩:=ZBk m.report.state h.report.state
 obtain ⟨b3,e3,f3⟩:=ZBk m.report.proposal h.report.proposal
 have l0:=ZW (F:=fun k i=>ZwB k m.kind m.view m.frm m.to m.round m.region m.slot m.op.core m.op.op m.op.part m.err m.settled m.req.id.core m.req.id.op m.req.id.part m.req.call.kind m.req.call.slot m.req.call.dest m.req.call.core m.req.call.mask m.req.call.object m.req.call.bits m.req.call.level m.req.call.offset m.req.call.count m.req.call.index m.req.call.addr m.req.region m.req.width m.req.src.id.core m.req.src.id.op m.req.src.id.part (Zb m.req.src.path) m.req.src.cap.kind m.req.src.cap.base m.req.src.cap.bits m.req.src.cap.rights m.req.src.cap.width m.req.src.cap.level m.req.src.cap.device (Zb m.ids) (m.nodes.map ZY) (Za m.cores) (m.moves.map ZU) m.base m.next.number (Za m.next.members) (Za m.next.owners) (m.state.slots.map Zg) (m.state.pending.map Zv) (m.state.marks.map Zh) (m.state.answers.map Zx) (m.state.entries.map Ze) (Zb m.state.commits) m.report.core m.report.view.number (Za m.report.view.members) (Za m.report.view.owners) (m.report.state.slots.map Zg) (m.report.state.pending.map Zv) (m.report.state.marks.map Zh) (m.report.state.answers.map Zx) (m.report.state.entries.map Ze) (Zb m.report.state.commits) m.report.ready m.report.next.number (Za m.report.next.members) (Za m.report.next.owners) (m.report.proposal.slots.map Zg) (m.report.proposal.pending.map Zv) (m.report.proposal.marks.map Zh) (m.report.proposal.answers.map Zx) (m.report.proposal.entries.map Ze) (Zb m.report.proposal.commits) i) (n:=m.nodes.length) (fin:=some (b1&&(b2&&b3))) (bad:=some false) (atB (fun x:Yz=>!cop .gtr (x.path.length:Int) 30) m.nodes) (Zch h.nodes) 0 (by omega)
  (fun k i _ hi=>by
   refine (Zoi ..).trans ?_
   rw [List.length_map,if_pos (ZQ hi)]
   refine (Yv hi _).trans ?_
   rw [ZN hi (Zch h.nodes),Ji _ hi]
   show (if (cop .gtr (List.length (Zb m.nodes[i].path):Int) 30)=true then some false else ZwB k m.kind m.view m.frm m.to m.round m.region m.slot m.op.core m.op.op m.op.part m.err m.settled m.req.id.core m.req.id.op m.req.id.part m.req.call.kind m.req.call.slot m.req.call.dest m.req.call.core m.req.call.mask m.req.call.object m.req.call.bits m.req.call.level m.req.call.offset m.req.call.count m.req.call.index m.req.call.addr m.req.region m.req.width m.req.src.id.core m.req.src.id.op m.req.src.id.part (Zb m.req.src.path) m.req.src.cap.kind m.req.src.cap.base m.req.src.cap.bits m.req.src.cap.rights m.req.src.cap.width m.req.src.cap.level m.req.src.cap.device (Zb m.ids) (m.nodes.map ZY) (Za m.cores) (m.moves.map ZU) m.base m.next.number (Za m.next.members) (Za m.next.owners) (m.state.slots.map Zg) (m.state.pending.map Zv) (m.state.marks.map Zh) (m.state.answers.map Zx) (m.state.entries.map Ze) (Zb m.state.commits) m.report.core m.report.view.number (Za m.report.view.members) (Za m.report.view.owners) (m.report.state.slots.map Zg) (m.report.state.pending.map Zv) (m.report.state.marks.map Zh) (m.report.state.answers.map Zx) (m.report.state.entries.map Ze) (Zb m.report.state.commits) m.report.ready m.report.next.number (Za m.report.next.members) (Za m.report.next.owners) (m.report.proposal.slots.map Zg) (m.report.proposal.pending.map Zv) (m.report.proposal.marks.map Zh) (m.report.proposal.answers.map Zx) (m.report.proposal.entries.map Ze) (Zb m.report.proposal.commits) ((i+1:Nat):Int))=_
   rw [ZJ]
   cases cop .gtr (m.nodes[i].path.length:Int) 30<;>rfl)
  (fun k i hi=>by
   refine (Zoi ..).trans ?_
   rw [List.length_map,if_neg (ZT hi),e1,e2,e3]
   exact Jq _ (Jq _ rfl))
 have a1:=h.ids
 have a2:=h.nodes
 have a3:=h.cores
 have a4:=h.moves
 have a5:=h.next.members
 have a6:=h.next.owners
 have a7:=h.report.view.members
 have a8:=h.report.view.owners
 have a9:=h.report.next.members
 have a10:=h.report.next.owners
 rw [ZBB]
 simp only [List.length_map,ZJ,ZB]
 rw [JC (a:=(m.ids.length:Int)) (b:=(m.nodes.length:Int)) (by omega) (by omega),JC (b:=(m.cores.length:Int)) (by omega) (by omega),JC (b:=(m.moves.length:Int)) (by omega) (by omega),JC (b:=(m.next.members.length:Int)) (by omega) (by omega),JC (b:=(m.next.owners.length:Int)) (by omega) (by omega),JC (b:=(m.report.view.members.length:Int)) (by omega) (by omega),JC (b:=(m.report.view.owners.length:Int)) (by omega) (by omega),JC (b:=(m.report.next.members.length:Int)) (by omega) (by omega),JC (b:=(m.report.next.owners.length:Int)) (by omega) (by omega)]
 by_cases hc:(cop .gtr ((m.ids.length:Int)+m.nodes.length+m.cores.length+m.moves.length+m.next.members.length+m.next.owners.length+m.report.view.members.length+m.report.view.owners.length+m.report.next.members.length+m.report.next.owners.length) 300)=true
 ·exact ⟨false,if_pos hc,fun h=>by cases h⟩
 ·rw [if_neg hc]
  simp only [CQ] at hc
  by_cases hp:(cop .gtr (m.req.src.path.length:Int) 30)=true
  ·exact ⟨false,if_pos hp,fun h=>by cases h⟩
  ·rw [if_neg hp]
   refine ⟨_,Eq.trans l0 (show _=some ((List.range' 0 (m.nodes.length-0)).all (atB (fun x:Yz=>!cop .gtr (x.path.length:Int) 30) m.nodes)&&(b1&&(b2&&b3))) from ?_),fun hb=>?_⟩
   ·cases (List.range' 0 (m.nodes.length-0)).all (atB (fun x:Yz=>!cop .gtr (x.path.length:Int) 30) m.nodes)<;>rfl
   ·simp only [Bool.and_eq_true] at hb
    exact ⟨by omega,by omega,by omega,by omega,by omega,by omega,by omega,by omega,by omega,by omega,f1 hb.2.1,f2 hb.2.2.1,f3 hb.2.2.2⟩
theorem n63 {z a:Int} (h0:0≤z) (h1:z≤1099511627776):N63 z:=by
 have:(2:Int)^63=9223372036854775808:=by decide
 exact ⟨h0,by omega⟩
theorem ZaZ {i:Id} (h:Zbg i=true):i.Small:=by
 simp only [Zbg,Bool.and_eq_true] at h
 exact Zhh h.1
theorem ZqL {z:Int} (h:Z5 z=true):N63 z:=by have:=of_decide_eq_true h;exact n63 (a:=0) (by omega) (by omega)
theorem ZbV {z:Int} (h:Zs z=true):N63 z:=by have:=of_decide_eq_true h;exact n63 (a:=0) (by omega) (by omega)
theorem Zre {z:Int} (h:JB z=true):N63 z:=by have:=of_decide_eq_true h;exact n63 (a:=0) (by omega) (by omega)
theorem Zxr {z:Int} (h:Zb0 z=true):N63 z:=by have:=of_decide_eq_true h;exact n63 (a:=0) (by omega) (by omega)
theorem Zp6 {z:Int} (h:JA z=true):N63 z:=by have:=of_decide_eq_true h;exact n63 (a:=0) (by omega) (by omega)
theorem Zcy:N63 0:=⟨by decide,by decide⟩
theorem Zkc {r:Req} (hp:r.src.path.length < 2^44) (hc:∀ z∈Yr r.call,Rng z) (h:KC r=true):r.Good:=by
 simp only [KC,Bool.and_eq_true,decide_eq_true_eq] at h
 obtain ⟨⟨⟨⟨h1,h2⟩,h3⟩,h4⟩,h5⟩:=h
 have hr:=ZqL h3
 have h63:(2:Int)^63=9223372036854775808:=by decide
 exact ⟨ZaZ h1,hc,hr.1,hr.2,by omega,by omega,Zch hp⟩
theorem ZqM {r:Req} (hp:r.src.path.length < 2^44) (hc:∀ z∈Yr r.call,Rng z) (h:Zrz r=true):r.Good:=by
 simp only [Zrz,Bool.and_eq_true,decide_eq_true_eq] at h
 obtain ⟨⟨⟨⟨h1,h2⟩,h3⟩,h4⟩,h5⟩:=h
 have h63:(2:Int)^63=9223372036854775808:=by decide
 exact ⟨by rw [h1];exact Zf3,hc,by omega,by omega,by omega,by omega,Zch hp⟩
theorem ZbE {s:JW} (hz:s.Sized) (hs:s.Short) (h:Yx s=true):s.Good:=by
 simp only [Yx,Bool.and_eq_true,List.all_eq_true] at h
 obtain ⟨⟨⟨⟨⟨h1,h2⟩,h3⟩,h4⟩,h5⟩,h6⟩:=h
 have a1:=hs.slots
 have a2:=hs.pending
 have a3:=hs.marks
 have a4:=hs.answers
 have a5:=hs.entries
 have a6:=hs.commits
 have hslot:s.slots.all Zbx=true:=by
  simp only [Vi,Bool.and_eq_true] at h1
  rw [Zjr,Bool.and_eq_true,ZbO] at h1
  exact h1.2.1
 rw [List.all_eq_true] at hslot
 refine ⟨by omega,by omega,by omega,by omega,by omega,by omega,fun x hx=>?_,fun x hx=>Zkc (hz.req x hx).1 (hz.req x hx).2 (h2.1 x hx),fun x hx=>?_,fun x hx=>?_,fun x hx=>?_,fun x hx=>ZaZ (h6 x hx)⟩
 ·have h:=hslot x hx
  simp only [Zbx,Bool.and_eq_true,decide_eq_true_eq] at h
  obtain ⟨ho,hi⟩:=h
  refine ⟨Zch (hz.slot x hx),n63 (a:=0) (by omega) (by omega),?_⟩
  split at hi
  ·simp only [Bool.and_eq_true,decide_eq_true_eq] at hi
   rw [hi.2];exact Zf3
  ·simp only [Bool.and_eq_true,Bool.or_eq_true,decide_eq_true_eq] at hi
   rcases hi.2 with e | e
   ·rw [e];exact Zf3
   ·exact ZaZ e
 ·have h:=h3.1 x hx
  simp only [Y3,Bool.and_eq_true] at h
  exact ⟨ZqL h.1,ZaZ h.2⟩
 ·have h:=h4.1 x hx
  simp only [V0,Bool.and_eq_true,decide_eq_true_eq] at h
  exact ⟨n63 (a:=0) (by omega) (by omega),Zxr h.2⟩
 ·have h:=h5.1 x hx
  simp only [VZ,Bool.and_eq_true] at h
  exact ⟨ZbV h.1.1,Zre h.1.2,Zch (hz.entry x hx)⟩
theorem K3 {α:Type} {l:List α} (h:l.length=0) {p:α→Prop} : ∀ x∈l,p x:=by
 rw [List.length_eq_zero_iff.1 h];intro x hx;cases hx
theorem Zbp {s:JW} (hs:s.Short) (h:Wb s=true):s.Good:=by
 simp only [Wb,Bool.and_eq_true,decide_eq_true_eq] at h
 obtain ⟨⟨⟨⟨⟨h1,h2⟩,h3⟩,h4⟩,h5⟩,h6⟩:=h
 exact ⟨by omega,by omega,by omega,by omega,by omega,by omega,K3 h1,K3 h2,K3 h3,K3 h4,K3 h5,K3 h6⟩
theorem ZdH {v:V7} (h:K2 v=true) (hm:v.members.length≤2000000) (ho:v.owners.length≤2000000):v.Good:=by
 simp only [K2,Bool.and_eq_true,decide_eq_true_eq] at h
 obtain ⟨⟨⟨⟨h1,h2⟩,h3⟩,h4⟩,h5⟩:=h
 rw [Zjr,Bool.and_eq_true,ZbO] at h4
 exact ⟨Zp6 h1,by omega,by omega,fun x hx=>ZbV (List.all_eq_true.1 h4.1 x hx),fun x hx=>ZbV (List.all_eq_true.1 h5 x hx)⟩
theorem ZcL {v:V7} (h:ZbX v=true):v.Good:=by
 simp only [ZbX,Bool.and_eq_true,decide_eq_true_eq] at h
 obtain ⟨⟨h1,h2⟩,h3⟩:=h
 exact ⟨by rw [h1];exact Zcy,by omega,by omega,K3 h2,K3 h3⟩
theorem Zpp {m:Msg} (hz:m.Sized) (hs:m.Short) (h:Jn m=true):m.Good:=by
 simp only [Jn,headOk,Bool.and_eq_true] at h
 obtain ⟨⟨⟨⟨k1,k2⟩,k3⟩,k4⟩,hf,hr⟩:=h
 have hk:=of_decide_eq_true k1
 have fo:∀ f,f < 15→Zi m f=true∨zf m f=true:=by
  intro f hf'
  by_cases hc:f∈kf m.kind.toNat
  ·exact .inl (List.all_eq_true.1 hf f hc)
  ·exact .inr (JG hr f hf' (by simpa using hc))
 have i0:=hs.ids
 have i1:=hs.nodes
 have i2:=hs.cores
 have i3:=hs.moves
 refine ⟨n63 (a:=0) (by omega) (by omega),Zp6 k2,ZbV k3,ZbV k4,?_,?_,?_,?_,?_,?_,by omega,?_,by omega,fun x hx=>Zch (hz.node x hx),by omega,?_,by omega,?_,?_,?_,?_,?_⟩
 ·rcases fo 8 (by omega) with e | e
  ·exact Zp6 e
  ·rw [show m.round=0 from of_decide_eq_true e];exact Zcy
 ·rcases fo 0 (by omega) with e | e
  ·exact ZqL e
  ·rw [show m.region=0 from of_decide_eq_true e];exact Zcy
 ·rcases fo 6 (by omega) with e | e
  ·exact Zre e
  ·rw [show m.slot=0 from of_decide_eq_true e];exact Zcy
 ·rcases fo 2 (by omega) with e | e
  ·exact ZaZ e
  ·rw [show m.op=zid from of_decide_eq_true e];exact Zf3
 ·rcases fo 3 (by omega) with e | e
  ·exact Zxr e
  ·rw [show m.err=0 from of_decide_eq_true e];exact Zcy
 ·rcases fo 1 (by omega) with e | e
  ·exact Zkc hz.req hz.call e
  ·exact ZqM hz.req hz.call e
 ·rcases fo 7 (by omega) with e | e
  ·have e:(decide (m.ids.length≤64)&&m.ids.all Vw)=true:=e
   simp only [Bool.and_eq_true,List.all_eq_true] at e
   exact fun x hx=>Zhh (e.2 x hx)
  ·exact K3 (of_decide_eq_true e)
 ·rcases fo 9 (by omega) with e | e
  ·have e:(m.cores.all Zs&&KL ltI m.cores)=true:=e
   simp only [Bool.and_eq_true,List.all_eq_true] at e
   exact fun x hx=>ZbV (e.1 x hx)
  ·exact K3 (of_decide_eq_true e)
 ·rcases fo 14 (by omega) with e | e
  ·have e:(decide (m.moves.length≤16)&&m.moves.all K1)=true:=e
   simp only [Bool.and_eq_true,List.all_eq_true,K1] at e
   exact fun x hx=>⟨ZqL (e.2 x hx).1,ZbV (e.2 x hx).2⟩
  ·exact K3 (of_decide_eq_true e)
 ·rcases fo 11 (by omega) with e | e
  ·exact Zp6 e
  ·rw [show m.base=0 from of_decide_eq_true e];exact Zcy
 ·rcases fo 12 (by omega) with e | e
  ·exact ZdH e hs.nm hs.no
  ·exact ZcL e
 ·rcases fo 13 (by omega) with e | e
  ·exact ZbE hz.state hs.state e
  ·exact Zbp hs.state e
 ·rcases fo 10 (by omega) with e | e
  ·have e:Zfh m.report=true:=e
   simp only [Zfh,Bool.and_eq_true] at e
   exact ⟨ZbV e.1.1.1.1,ZdH e.1.1.1.2 hs.rvm hs.rvo,ZbE hz.report.state hs.rs e.1.1.2,ZdH e.1.2 hs.rnm hs.rno,ZbE hz.report.proposal hs.rp e.2⟩
  ·have e:Wk m.report=true:=e
   simp only [Wk,Bool.and_eq_true,decide_eq_true_eq] at e
   exact ⟨by rw [e.1.1.1.1.1];exact Zcy,ZcL e.1.1.1.1.2,Zbp hs.rs e.1.1.1.2,ZcL e.1.2,Zbp hs.rp e.2⟩
end Go.Proofs.YtjldbnbdcmfbmaaGreat
end

section
namespace Go.Proofs.YtjldbnbdcmfbmaaGreat
open Go Go.AM
set_option linter.unusedSimpArgs false
set_option linter.unusedVariables false
set_option maxRecDepth 100000
theorem Jv {a b:List Int} (ha:YN a) (hb:YN b):YN (a++b):=fun z hz=>(List.mem_append.1 hz).elim (ha z) (hb z)
theorem Zon:YN []:=fun z hz=>by cases hz
theorem Zfs {α:Type} (c:α→List Int) (h:∀ x,YN (c x)) (l:List α):YN (l.map c).flatten:=by
 intro z hz
 obtain ⟨a,ha,hza⟩:=List.mem_flatten.1 hz
 obtain ⟨x,_,rfl⟩:=List.mem_map.1 ha
 exact h x z hza
theorem Zbf (z:Int):YN (nB z):=WF _
theorem Zho (i:Id):YN (idB i):=Jv (Jv (WF _) (WF _)) (WF _)
theorem ZrP (c:Call):YN (ZmI c):=Zfs sgB (fun x=>WF _) _
theorem ZxS (c:Cap) (h:Ka c=true):YN (YK c):=by
 obtain ⟨h1,h2,h3,h4,h5,h6,h7,h8,h9,h10,h11,h12⟩:=Ze5 h
 intro z hz
 simp only [YK,List.mem_cons,List.not_mem_nil,or_false] at hz
 rcases hz with rfl | rfl | rfl | rfl | rfl | rfl | rfl | rfl | rfl | rfl
 ·omega
 ·omega
 ·split<;>omega
 all_goals omega
theorem Zph (n:Yz):YN (ZbB n):=by
 unfold ZbB
 split
 ·rename_i h
  have hc:Ka n.cap=true:=by
   simp only [ZD,Bool.and_eq_true] at h
   exact h.1.1.2
  exact Jv (Jv (Jv (Zho _) (WF _)) (Zfs idB Zho _)) (ZxS n.cap hc)
 ·exact Zon
theorem ZfC (n:Yz):YN (WM n):=Jv (Zbf _) (Zph n)
theorem Zrm (r:Req):YN (Zfg r):=Jv (Jv (Jv (Jv (Zho _) (ZrP _)) (Zbf _)) (Zbf _)) (ZfC _)
theorem ZtG (s:Kx):YN (ZdI s):=Jv (Jv (ZfC _) (Zbf _)) (Zho _)
theorem ZsH (m:Zcm):YN (VB m):=Jv (Zbf _) (Zho _)
theorem ZxM (m:Ans):YN (ZcN m):=Jv (Zbf _) (Zbf _)
theorem Zxy (e:ZI):YN (Zbm e):=Jv (Jv (Zbf _) (Zbf _)) (ZfC _)
theorem Zue (m:ZeG):YN (ZfB m):=Jv (Zbf _) (Zbf _)
theorem Kt {α:Type} (c:α→List Int) (h:∀ x,YN (c x)) (l:List α):YN (Zw c l):=Jv (Zbf _) (Zfs c h l)
theorem Zga (s:JW):YN (Wd s):=Jv (Kt _ ZtG _) (Jv (Kt _ Zrm _) (Jv (Kt _ ZsH _) (Jv (Kt _ ZxM _) (Jv (Kt _ Zxy _) (Kt _ Zho _)))))
theorem ZiI (v:V7):YN (Zc9 v):=Jv (Zbf _) (Jv (Kt _ Zbf _) (Kt _ Zbf _))
theorem ZDk (b:Bool):YN (bB b):=by
 unfold bB
 split
 ·exact Zbf 1
 ·exact Zbf 0
theorem Zvu (r:JF):YN (Zo2 r):=Jv (Zbf _) (Jv (ZiI _) (Jv (Zga _) (Jv (ZDk _) (Jv (ZiI _) (Zga _)))))
theorem ZpO (m:Msg) (f:Nat):YN (Z4 m f):=by
 unfold Z4
 split
 ·exact Zbf _
 ·exact Zrm _
 ·exact Zho _
 ·exact Zbf _
 ·exact ZDk _
 ·exact Kt _ ZfC _
 ·exact Zbf _
 ·exact Kt _ Zho _
 ·exact Zbf _
 ·exact Kt _ Zbf _
 ·exact Zvu _
 ·exact Zbf _
 ·exact ZiI _
 ·exact Zga _
 ·exact Kt _ Zue _
 ·exact Zon
theorem ZvR (m:Msg):YN (ZuJ m):=Jv (Jv (Zbf _) (Jv (Zbf _) (Jv (Zbf _) (Zbf _)))) (Zfs _ (ZpO m) _)
end Go.Proofs.YtjldbnbdcmfbmaaGreat
end

section
namespace Go.Proofs.YtjldbnbdcmfbmaaGreat
open Go Go.AM
set_option linter.unusedSimpArgs false
set_option linter.unusedVariables false
set_option maxRecDepth 100000
end Go.Proofs.YtjldbnbdcmfbmaaGreat
end

section
namespace Go.Proofs.YtjldbnbdcmfbmaaGreat
open Go Go.AM
set_option linter.unusedSimpArgs false
set_option linter.unusedVariables false
set_option maxRecDepth 100000
end Go.Proofs.YtjldbnbdcmfbmaaGreat
end

section
namespace Go.Proofs.YtjldbnbdcmfbmaaGreat
open Go Go.AM
set_option linter.unusedSimpArgs false
set_option linter.unusedVariables false
set_option maxRecDepth 100000
end Go.Proofs.YtjldbnbdcmfbmaaGreat
end

section
namespace Go.Proofs.YtjldbnbdcmfbmaaGreat
open Go Go.AM
set_option linter.unusedSimpArgs false
set_option linter.unusedVariables false
set_option maxRecDepth 100000
end Go.Proofs.YtjldbnbdcmfbmaaGreat
end

section
namespace Go.Proofs.YtjldbnbdcmfbmaaGreat
open Go Go.AM
set_option linter.unusedSimpArgs false
set_option linter.unusedVariables false
set_option maxRecDepth 100000
end Go.Proofs.YtjldbnbdcmfbmaaGreat
end

section
namespace Go.Proofs.YtjldbnbdcmfbmaaGreat
open Go Go.AM
set_option linter.unusedSimpArgs false
set_option linter.unusedVariables false
set_option maxRecDepth 100000
end Go.Proofs.YtjldbnbdcmfbmaaGreat
end

section
namespace Go.Proofs.YtjldbnbdcmfbmaaGreat
open Go Go.AM
set_option linter.unusedSimpArgs false
set_option linter.unusedVariables false
set_option maxRecDepth 100000
end Go.Proofs.YtjldbnbdcmfbmaaGreat
end

section
namespace Go.Proofs.YtjldbnbdcmfbmaaGreat
open Go Go.AM
set_option linter.unusedSimpArgs false
set_option linter.unusedVariables false
set_option maxRecDepth 100000
end Go.Proofs.YtjldbnbdcmfbmaaGreat
end

section
namespace Go.Proofs.YtjldbnbdcmfbmaaGreat
open Go Go.AM
set_option linter.unusedSimpArgs false
set_option linter.unusedVariables false
set_option maxRecDepth 100000
end Go.Proofs.YtjldbnbdcmfbmaaGreat
end

section
namespace Go.Proofs.YtjldbnbdcmfbmaaGreat
open Go Go.AM
set_option linter.unusedSimpArgs false
set_option linter.unusedVariables false
set_option maxRecDepth 100000
end Go.Proofs.YtjldbnbdcmfbmaaGreat
end

section
namespace Go.Proofs.YtjldbnbdcmfbmaaGreat
open Go Go.AM
set_option linter.unusedSimpArgs false
set_option linter.unusedVariables false
set_option maxRecDepth 100000
theorem ZtF:Ret (fun r=>r=true) ((g9).bind fun (r:Bool)=>some (r)):=Yb s9 (Zo rfl)
theorem StS.sized {s:JW} (h:StS s) (hc:Ze0 s):s.Sized:=by
 have h1:=h.slots;have h2:=h.pend;have h3:=h.marks;have h4:=h.answers;have h5:=h.entries;have h6:=h.commits
 exact ⟨by omega,by omega,by omega,by omega,by omega,by omega,fun x hx=>by have:=h.spath x hx;omega,fun x hx=>⟨by have:=h.psrc x hx;omega,hc x hx⟩,fun x hx=>by have:=h.epath x hx;omega⟩
theorem VwG.sized {v:V7} (h:VwG v):v.Sized:=⟨by have:=h.members;omega,by have:=h.owners;omega⟩
theorem MsS.sized {m:Msg} (h:MsS m) (hc:Zru m):m.Sized:=⟨by have:=h.req;omega,hc.1,by have:=h.ids;omega,by have:=h.nodes;omega,fun x hx=>by have:=h.node x hx;omega,by have:=h.cores;omega,by have:=h.moves;omega,h.next.sized,h.state.sized hc.2.1,⟨h.report.view.sized,h.report.state.sized hc.2.2.1,h.report.next.sized,h.report.proposal.sized hc.2.2.2⟩⟩
theorem StS.shrt {s:JW} (h:StS s):s.Short:=⟨by have:=h.slots;omega,by have:=h.pend;omega,by have:=h.marks;omega,by have:=h.answers;omega,by have:=h.entries;omega,by have:=h.commits;omega⟩
theorem MsS.shrt {m:Msg} (h:MsS m):m.Short:=⟨by have:=h.ids;omega,by have:=h.nodes;omega,by have:=h.cores;omega,by have:=h.moves;omega,by have:=h.next.members;omega,by have:=h.next.owners;omega,by have:=h.report.view.members;omega,by have:=h.report.view.owners;omega,by have:=h.report.next.members;omega,by have:=h.report.next.owners;omega,h.state.shrt,h.report.state.shrt,h.report.proposal.shrt⟩
theorem Zq2 (m:Msg) (v:Bool):ZbN (if v=true then (Zc (ZuJ m),(0:Int)) else (E0,1)).1:=by
 cases v with
 | true => exact Zlf (ZvR m)
 | false => exact Zlf Zon
theorem Z2 (m:Msg) (hz:m.Sized) (hs:m.Short):Ret (fun r=>r=true) (VQ (Zpo m)):=by
 show Ret (fun r=>r=true) ((g14 m.kind m.view m.frm m.to m.round m.region m.slot m.op.core m.op.op m.op.part m.err m.settled m.req.id.core m.req.id.op m.req.id.part m.req.call.kind m.req.call.slot m.req.call.dest m.req.call.core m.req.call.mask m.req.call.object m.req.call.bits m.req.call.level m.req.call.offset m.req.call.count m.req.call.index m.req.call.addr m.req.region m.req.width m.req.src.id.core m.req.src.id.op m.req.src.id.part (Zb m.req.src.path) m.req.src.cap.kind m.req.src.cap.base m.req.src.cap.bits m.req.src.cap.rights m.req.src.cap.width m.req.src.cap.level m.req.src.cap.device (Zb m.ids) (m.nodes.map ZY) (Za m.cores) (m.moves.map ZU) m.base m.next.number (Za m.next.members) (Za m.next.owners) (m.state.slots.map Zg) (m.state.pending.map Zv) (m.state.marks.map Zh) (m.state.answers.map Zx) (m.state.entries.map Ze) (Zb m.state.commits) m.report.core m.report.view.number (Za m.report.view.members) (Za m.report.view.owners) (m.report.state.slots.map Zg) (m.report.state.pending.map Zv) (m.report.state.marks.map Zh) (m.report.state.answers.map Zx) (m.report.state.entries.map Ze) (Zb m.report.state.commits) m.report.ready m.report.next.number (Za m.report.next.members) (Za m.report.next.owners) (m.report.proposal.slots.map Zg) (m.report.proposal.pending.map Zv) (m.report.proposal.marks.map Zh) (m.report.proposal.answers.map Zx) (m.report.proposal.entries.map Ze) (Zb m.report.proposal.commits)).bind fun (r156:LL×Int)=>(g15 m.kind m.view m.frm m.to m.round m.region m.slot m.op.core m.op.op m.op.part m.err m.settled m.req.id.core m.req.id.op m.req.id.part m.req.call.kind m.req.call.slot m.req.call.dest m.req.call.core m.req.call.mask m.req.call.object m.req.call.bits m.req.call.level m.req.call.offset m.req.call.count m.req.call.index m.req.call.addr m.req.region m.req.width m.req.src.id.core m.req.src.id.op m.req.src.id.part (Zb m.req.src.path) m.req.src.cap.kind m.req.src.cap.base m.req.src.cap.bits m.req.src.cap.rights m.req.src.cap.width m.req.src.cap.level m.req.src.cap.device (Zb m.ids) (m.nodes.map ZY) (Za m.cores) (m.moves.map ZU) m.base m.next.number (Za m.next.members) (Za m.next.owners) (m.state.slots.map Zg) (m.state.pending.map Zv) (m.state.marks.map Zh) (m.state.answers.map Zx) (m.state.entries.map Ze) (Zb m.state.commits) m.report.core m.report.view.number (Za m.report.view.members) (Za m.report.view.owners) (m.report.state.slots.map Zg) (m.report.state.pending.map Zv) (m.report.state.marks.map Zh) (m.report.state.answers.map Zx) (m.report.state.entries.map Ze) (Zb m.report.state.commits) m.report.ready m.report.next.number (Za m.report.next.members) (Za m.report.next.owners) (m.report.proposal.slots.map Zg) (m.report.proposal.pending.map Zv) (m.report.proposal.marks.map Zh) (m.report.proposal.answers.map Zx) (m.report.proposal.entries.map Ze) (Zb m.report.proposal.commits)).bind fun (r158:LL×Int)=>(g12 m.kind m.view m.frm m.to m.round m.region m.slot m.op.core m.op.op m.op.part m.err m.settled m.req.id.core m.req.id.op m.req.id.part m.req.call.kind m.req.call.slot m.req.call.dest m.req.call.core m.req.call.mask m.req.call.object m.req.call.bits m.req.call.level m.req.call.offset m.req.call.count m.req.call.index m.req.call.addr m.req.region m.req.width m.req.src.id.core m.req.src.id.op m.req.src.id.part (Zb m.req.src.path) m.req.src.cap.kind m.req.src.cap.base m.req.src.cap.bits m.req.src.cap.rights m.req.src.cap.width m.req.src.cap.level m.req.src.cap.device (Zb m.ids) (m.nodes.map ZY) (Za m.cores) (m.moves.map ZU) m.base m.next.number (Za m.next.members) (Za m.next.owners) (m.state.slots.map Zg) (m.state.pending.map Zv) (m.state.marks.map Zh) (m.state.answers.map Zx) (m.state.entries.map Ze) (Zb m.state.commits) m.report.core m.report.view.number (Za m.report.view.members) (Za m.report.view.owners) (m.report.state.slots.map Zg) (m.report.state.pending.map Zv) (m.report.state.marks.map Zh) (m.report.state.answers.map Zx) (m.report.state.entries.map Ze) (Zb m.report.state.commits) m.report.ready m.report.next.number (Za m.report.next.members) (Za m.report.next.owners) (m.report.proposal.slots.map Zg) (m.report.proposal.pending.map Zv) (m.report.proposal.marks.map Zh) (m.report.proposal.answers.map Zx) (m.report.proposal.entries.map Ze) (Zb m.report.proposal.commits)).bind fun (r160:Bool)=>(g16 m.kind m.view m.frm m.to m.round m.region m.slot m.op.core m.op.op m.op.part m.err m.settled m.req.id.core m.req.id.op m.req.id.part m.req.call.kind m.req.call.slot m.req.call.dest m.req.call.core m.req.call.mask m.req.call.object m.req.call.bits m.req.call.level m.req.call.offset m.req.call.count m.req.call.index m.req.call.addr m.req.region m.req.width m.req.src.id.core m.req.src.id.op m.req.src.id.part (Zb m.req.src.path) m.req.src.cap.kind m.req.src.cap.base m.req.src.cap.bits m.req.src.cap.rights m.req.src.cap.width m.req.src.cap.level m.req.src.cap.device (Zb m.ids) (m.nodes.map ZY) (Za m.cores) (m.moves.map ZU) m.base m.next.number (Za m.next.members) (Za m.next.owners) (m.state.slots.map Zg) (m.state.pending.map Zv) (m.state.marks.map Zh) (m.state.answers.map Zx) (m.state.entries.map Ze) (Zb m.state.commits) m.report.core m.report.view.number (Za m.report.view.members) (Za m.report.view.owners) (m.report.state.slots.map Zg) (m.report.state.pending.map Zv) (m.report.state.marks.map Zh) (m.report.state.answers.map Zx) (m.report.state.entries.map Ze) (Zb m.report.state.commits) m.report.ready m.report.next.number (Za m.report.next.members) (Za m.report.next.owners) (m.report.proposal.slots.map Zg) (m.report.proposal.pending.map Zv) (m.report.proposal.marks.map Zh) (m.report.proposal.answers.map Zx) (m.report.proposal.entries.map Ze) (Zb m.report.proposal.commits)).bind fun (r161:Bool)=>
  if (r160 == r161)=true then ZE (ZbN r156.1)<|ZE (ZbN r158.1)<|if (ByteArray.toList (bytesOf r156.1) == ByteArray.toList (bytesOf r158.1))=true then if (cop .eql r156.2 r158.2)=true then (g9).bind fun (r162:Bool)=>some (r162) else some (false) else some (false) else some (false))
 have hg:Jn m=true→m.Good:=fun hv=>Zpp hz hs hv
 refine Yb (s14 m hz.fits hg) (Yb (s15 m hz.fits hg) (Yb (s12 m hz.fits) (Yb (s16 m hz.fits) ?_)))
 refine Zf (if_pos (beq_self_eq_true _)) ?_
 exact Zu (Zq2 m _) (Zu (Zq2 m _) (Zf (if_pos (beq_self_eq_true _)) (Zf (if_pos (by simp [cop])) ZtF)))
theorem s3 (kind:Int) (l:List Int) (hl:RL l) (hll:l.length < 2^63) (sts:List Ztv) (hn:sts.length < 2^63) (o:Msg) (ho:o.Sized) (which:Int):g3 kind (Za l) (sts.map Zbz) o.kind o.view o.frm o.to o.round o.region o.slot o.op.core o.op.op o.op.part o.err o.settled o.req.id.core o.req.id.op o.req.id.part o.req.call.kind o.req.call.slot o.req.call.dest o.req.call.core o.req.call.mask o.req.call.object o.req.call.bits o.req.call.level o.req.call.offset o.req.call.count o.req.call.index o.req.call.addr o.req.region o.req.width o.req.src.id.core o.req.src.id.op o.req.src.id.part (Zb o.req.src.path) o.req.src.cap.kind o.req.src.cap.base o.req.src.cap.bits o.req.src.cap.rights o.req.src.cap.width o.req.src.cap.level o.req.src.cap.device (Zb o.ids) (o.nodes.map ZY) (Za o.cores) (o.moves.map ZU) o.base o.next.number (Za o.next.members) (Za o.next.owners) (o.state.slots.map Zg) (o.state.pending.map Zv) (o.state.marks.map Zh) (o.state.answers.map Zx) (o.state.entries.map Ze) (Zb o.state.commits) o.report.core o.report.view.number (Za o.report.view.members) (Za o.report.view.owners) (o.report.state.slots.map Zg) (o.report.state.pending.map Zv) (o.report.state.marks.map Zh) (o.report.state.answers.map Zx) (o.report.state.entries.map Ze) (Zb o.report.state.commits) o.report.ready o.report.next.number (Za o.report.next.members) (Za o.report.next.owners) (o.report.proposal.slots.map Zg) (o.report.proposal.pending.map Zv) (o.report.proposal.marks.map Zh) (o.report.proposal.answers.map Zx) (o.report.proposal.entries.map Ze) (Zb o.report.proposal.commits) which=some true:=by
 have key:Ret (fun r=>r=true) (g3 kind (Za l) (sts.map Zbz) o.kind o.view o.frm o.to o.round o.region o.slot o.op.core o.op.op o.op.part o.err o.settled o.req.id.core o.req.id.op o.req.id.part o.req.call.kind o.req.call.slot o.req.call.dest o.req.call.core o.req.call.mask o.req.call.object o.req.call.bits o.req.call.level o.req.call.offset o.req.call.count o.req.call.index o.req.call.addr o.req.region o.req.width o.req.src.id.core o.req.src.id.op o.req.src.id.part (Zb o.req.src.path) o.req.src.cap.kind o.req.src.cap.base o.req.src.cap.bits o.req.src.cap.rights o.req.src.cap.width o.req.src.cap.level o.req.src.cap.device (Zb o.ids) (o.nodes.map ZY) (Za o.cores) (o.moves.map ZU) o.base o.next.number (Za o.next.members) (Za o.next.owners) (o.state.slots.map Zg) (o.state.pending.map Zv) (o.state.marks.map Zh) (o.state.answers.map Zx) (o.state.entries.map Ze) (Zb o.state.commits) o.report.core o.report.view.number (Za o.report.view.members) (Za o.report.view.owners) (o.report.state.slots.map Zg) (o.report.state.pending.map Zv) (o.report.state.marks.map Zh) (o.report.state.answers.map Zx) (o.report.state.entries.map Ze) (Zb o.report.state.commits) o.report.ready o.report.next.number (Za o.report.next.members) (Za o.report.next.owners) (o.report.proposal.slots.map Zg) (o.report.proposal.pending.map Zv) (o.report.proposal.marks.map Zh) (o.report.proposal.answers.map Zx) (o.report.proposal.entries.map Ze) (Zb o.report.proposal.commits) which):=by
  rw [ZBA]
  obtain ⟨b,hb,hsh⟩:=s8 o ho
  refine Yb hb (Zp (fun _=>ZtF) fun hb2=>Zp (fun _=>ZtF) fun _=>?_)
  have H:o.Short:=hsh (by simpa using hb2)
  refine Zd (s11 sts hn) fun r ⟨f,hf,hr⟩=>?_
  subst hr
  refine Zd (s10 kind l hll f 30 hf (by omega)) fun r ⟨m,hr,hv,hm,hc⟩=>?_
  subst hr
  have S:=hm.sized (hc hl)
  have K:=hm.shrt
  refine Yb (s12 m S.fits) (Zf (if_neg (by simp [hv])) ?_)
  refine Zd (place which 18 (by omega) (by omega)) fun w _=>?_
  refine Zp (fun _=>Z2 { m with view:=o.view } ⟨S.req,S.call,S.ids,S.nodes,S.node,S.cores,S.moves,S.next,S.state,S.report⟩ ⟨K.ids,K.nodes,K.cores,K.moves,K.nm,K.no,K.rvm,K.rvo,K.rnm,K.rno,K.state,K.rs,K.rp⟩) fun _=>?_
  refine Zp (fun _=>Z2 { m with frm:=o.frm } ⟨S.req,S.call,S.ids,S.nodes,S.node,S.cores,S.moves,S.next,S.state,S.report⟩ ⟨K.ids,K.nodes,K.cores,K.moves,K.nm,K.no,K.rvm,K.rvo,K.rnm,K.rno,K.state,K.rs,K.rp⟩) fun _=>?_
  refine Zp (fun _=>Z2 { m with to:=o.to } ⟨S.req,S.call,S.ids,S.nodes,S.node,S.cores,S.moves,S.next,S.state,S.report⟩ ⟨K.ids,K.nodes,K.cores,K.moves,K.nm,K.no,K.rvm,K.rvo,K.rnm,K.rno,K.state,K.rs,K.rp⟩) fun _=>?_
  refine Zp (fun _=>Z2 { m with round:=o.round } ⟨S.req,S.call,S.ids,S.nodes,S.node,S.cores,S.moves,S.next,S.state,S.report⟩ ⟨K.ids,K.nodes,K.cores,K.moves,K.nm,K.no,K.rvm,K.rvo,K.rnm,K.rno,K.state,K.rs,K.rp⟩) fun _=>?_
  refine Zp (fun _=>Z2 { m with region:=o.region } ⟨S.req,S.call,S.ids,S.nodes,S.node,S.cores,S.moves,S.next,S.state,S.report⟩ ⟨K.ids,K.nodes,K.cores,K.moves,K.nm,K.no,K.rvm,K.rvo,K.rnm,K.rno,K.state,K.rs,K.rp⟩) fun _=>?_
  refine Zp (fun _=>Z2 { m with slot:=o.slot } ⟨S.req,S.call,S.ids,S.nodes,S.node,S.cores,S.moves,S.next,S.state,S.report⟩ ⟨K.ids,K.nodes,K.cores,K.moves,K.nm,K.no,K.rvm,K.rvo,K.rnm,K.rno,K.state,K.rs,K.rp⟩) fun _=>?_
  refine Zp (fun _=>Z2 { m with op:=o.op } ⟨S.req,S.call,S.ids,S.nodes,S.node,S.cores,S.moves,S.next,S.state,S.report⟩ ⟨K.ids,K.nodes,K.cores,K.moves,K.nm,K.no,K.rvm,K.rvo,K.rnm,K.rno,K.state,K.rs,K.rp⟩) fun _=>?_
  refine Zp (fun _=>Z2 { m with err:=o.err } ⟨S.req,S.call,S.ids,S.nodes,S.node,S.cores,S.moves,S.next,S.state,S.report⟩ ⟨K.ids,K.nodes,K.cores,K.moves,K.nm,K.no,K.rvm,K.rvo,K.rnm,K.rno,K.state,K.rs,K.rp⟩) fun _=>?_
  refine Zp (fun _=>Z2 { m with settled:=o.settled } ⟨S.req,S.call,S.ids,S.nodes,S.node,S.cores,S.moves,S.next,S.state,S.report⟩ ⟨K.ids,K.nodes,K.cores,K.moves,K.nm,K.no,K.rvm,K.rvo,K.rnm,K.rno,K.state,K.rs,K.rp⟩) fun _=>?_
  refine Zp (fun _=>Z2 { m with req:=o.req } ⟨ho.req,ho.call,S.ids,S.nodes,S.node,S.cores,S.moves,S.next,S.state,S.report⟩ ⟨K.ids,K.nodes,K.cores,K.moves,K.nm,K.no,K.rvm,K.rvo,K.rnm,K.rno,K.state,K.rs,K.rp⟩) fun _=>?_
  refine Zp (fun _=>Z2 { m with ids:=o.ids } ⟨S.req,S.call,ho.ids,S.nodes,S.node,S.cores,S.moves,S.next,S.state,S.report⟩ ⟨H.ids,K.nodes,K.cores,K.moves,K.nm,K.no,K.rvm,K.rvo,K.rnm,K.rno,K.state,K.rs,K.rp⟩) fun _=>?_
  refine Zp (fun _=>Z2 { m with nodes:=o.nodes } ⟨S.req,S.call,S.ids,ho.nodes,ho.node,S.cores,S.moves,S.next,S.state,S.report⟩ ⟨K.ids,H.nodes,K.cores,K.moves,K.nm,K.no,K.rvm,K.rvo,K.rnm,K.rno,K.state,K.rs,K.rp⟩) fun _=>?_
  refine Zp (fun _=>Z2 { m with cores:=o.cores } ⟨S.req,S.call,S.ids,S.nodes,S.node,ho.cores,S.moves,S.next,S.state,S.report⟩ ⟨K.ids,K.nodes,H.cores,K.moves,K.nm,K.no,K.rvm,K.rvo,K.rnm,K.rno,K.state,K.rs,K.rp⟩) fun _=>?_
  refine Zp (fun _=>Z2 { m with moves:=o.moves } ⟨S.req,S.call,S.ids,S.nodes,S.node,S.cores,ho.moves,S.next,S.state,S.report⟩ ⟨K.ids,K.nodes,K.cores,H.moves,K.nm,K.no,K.rvm,K.rvo,K.rnm,K.rno,K.state,K.rs,K.rp⟩) fun _=>?_
  refine Zp (fun _=>Z2 { m with base:=o.base } ⟨S.req,S.call,S.ids,S.nodes,S.node,S.cores,S.moves,S.next,S.state,S.report⟩ ⟨K.ids,K.nodes,K.cores,K.moves,K.nm,K.no,K.rvm,K.rvo,K.rnm,K.rno,K.state,K.rs,K.rp⟩) fun _=>?_
  refine Zp (fun _=>Z2 { m with next:=o.next } ⟨S.req,S.call,S.ids,S.nodes,S.node,S.cores,S.moves,ho.next,S.state,S.report⟩ ⟨K.ids,K.nodes,K.cores,K.moves,H.nm,H.no,K.rvm,K.rvo,K.rnm,K.rno,K.state,K.rs,K.rp⟩) fun _=>?_
  refine Zp (fun _=>Z2 { m with state:=o.state } ⟨S.req,S.call,S.ids,S.nodes,S.node,S.cores,S.moves,S.next,ho.state,S.report⟩ ⟨K.ids,K.nodes,K.cores,K.moves,K.nm,K.no,K.rvm,K.rvo,K.rnm,K.rno,H.state,K.rs,K.rp⟩) fun _=>?_
  exact Z2 { m with report:=o.report } ⟨S.req,S.call,S.ids,S.nodes,S.node,S.cores,S.moves,S.next,S.state,ho.report⟩ ⟨K.ids,K.nodes,K.cores,K.moves,K.nm,K.no,H.rvm,H.rvo,H.rnm,H.rno,K.state,H.rs,H.rp⟩
 obtain ⟨r,e,rfl⟩:=key
 exact e
end Go.Proofs.YtjldbnbdcmfbmaaGreat
end

section
namespace Go.Proofs.YtjldbnbdcmfbmaaGreat
open Go Go.AM
set_option linter.unusedSimpArgs false
set_option linter.unusedVariables false
set_option maxRecDepth 100000
theorem ZkZ {x:AV} (h:ZaX Tryz.prog 12 3 x):∃ z,x=I z:=by
 simp only [ZaX,Tryz.underlying3] at h
 obtain ⟨z,hz,_⟩:=ZR h.2
 exact ⟨z,by simpa using hz⟩
theorem Zmv {x:AV} (h:ZaX Tryz.prog 12 22 x):∃ l:List Int,x = .slice false 1 (Za l)∧RL l∧l.length < 2^63:=by
 simp only [ZaX,Tryz.underlying22] at h
 have h2:=h.2
 rw [TyZ] at h2
 simp only [Tryz.underlying22,Zmp] at h2
 obtain ⟨xs,h1,h0,h2,h3⟩:=h2
 obtain ⟨l,rfl,h5⟩:=Yf (f:=Wx) (p:=fun x=>Rng x) xs fun y hy=>ZR (h3 y hy)
 exact ⟨l,by simpa [Za] using h1,h5,ZCX (by simpa using h2)⟩
theorem Zs9 {d:Nat} {cs:List AV} (h:TyZ Tryz.prog (d+2) 84 cs):∃ s:Ztv,cs=Zbz s:=by
 rw [TyZ] at h
 simp only [Tryz.underlying84] at h
 obtain ⟨ps,rfl,hl,hp⟩:=h
 obtain ⟨p0,p1,p2,p3,p4,p5,p6,p7,p8,p9,rfl⟩:∃ p0 p1 p2 p3 p4 p5 p6 p7 p8 p9,ps = [p0,p1,p2,p3,p4,p5,p6,p7,p8,p9]:=by
  match ps,hl with
  | [p0, p1, p2, p3, p4, p5, p6, p7, p8, p9], _ => exact ⟨p0, p1, p2, p3, p4, p5, p6, p7, p8, p9, rfl⟩
 obtain ⟨a,rfl⟩:=ZcG (hp 0 _ _ rfl rfl)
 obtain ⟨b,rfl,_⟩:=ZR (hp 1 _ _ rfl rfl)
 obtain ⟨c,rfl,_⟩:=ZR (hp 2 _ _ rfl rfl)
 obtain ⟨d,rfl,_⟩:=ZR (hp 3 _ _ rfl rfl)
 obtain ⟨e,rfl,_⟩:=ZR (hp 4 _ _ rfl rfl)
 obtain ⟨f,rfl,_⟩:=ZR (hp 5 _ _ rfl rfl)
 obtain ⟨g,rfl,_⟩:=ZR (hp 6 _ _ rfl rfl)
 obtain ⟨i,rfl,_⟩:=ZR (hp 7 _ _ rfl rfl)
 obtain ⟨j,rfl,_⟩:=ZR (hp 8 _ _ rfl rfl)
 obtain ⟨k,rfl⟩:=ZcG (hp 9 _ _ rfl rfl)
 exact ⟨⟨a,b,c,d,e,f,g,i,j,k⟩,rfl⟩
theorem Zlz {x:AV} (h:ZaX Tryz.prog 12 23 x):∃ l:List Ztv,x = .slice false 10 (l.map Zbz)∧l.length < 2^63:=by
 simp only [ZaX,Tryz.underlying23] at h
 have hh:=h.2
 rw [TyZ] at hh
 simp only [Tryz.underlying23,ZxG] at hh
 obtain ⟨xs,h1,_,h2,h3⟩:=hh
 obtain ⟨l,rfl,h5⟩:=Yf (f:=Zbz) (p:=fun _=>True) xs fun y hy=>(Zs9 (h3 y hy)).elim fun a h=>⟨a,h,trivial⟩
 exact ⟨l,by simpa using h1,ZCX (by simpa using h2)⟩
theorem Zpu {x:AV} (h:ZaX Tryz.prog 12 50 x):∃ m:Msg,x = .agg (ZyE m)∧m.Sized:=by
 simp only [ZaX,Tryz.underlying50] at h
 obtain ⟨cs,rfl,h⟩:=h
 obtain ⟨m,rfl,hm⟩:=Zw7 h
 exact ⟨m,rfl,hm⟩
end Go.Proofs.YtjldbnbdcmfbmaaGreat
end
