/- L18n, L18o, L18p, L18q: texts of the proof, put together. -/
import Derived.Test.YtceopohbfkamiaaGreatM6
import Derived.Test.YtceopohbfkamiaaGreatM4
import Derived.Test.YtceopohbfkamiaaGreatM5

section
namespace Go.Proofs.YtceopohbfkamiaaGreat
open Go Go.AM
set_option linter.unusedSimpArgs false
set_option linter.unusedVariables false
set_option maxRecDepth 100000

/-- A message that can be written. -/
structure Msg.Good (m : Msg) : Prop where
  kind : N63 m.kind
  view : N63 m.view
  frm : N63 m.frm
  to : N63 m.to
  round : N63 m.round
  region : N63 m.region
  slot : N63 m.slot
  op : m.op.Small
  err : N63 m.err
  req : m.req.Good
  idsn : m.ids.length ≤ 2097152
  ids : ∀ x ∈ m.ids, x.Small
  nodesn : m.nodes.length ≤ 2097152
  nodes : ∀ x ∈ m.nodes, x.path.length < 2 ^ 63
  coresn : m.cores.length ≤ 2097152
  cores : ∀ x ∈ m.cores, 0 ≤ x ∧ x < 2 ^ 63
  movesn : m.moves.length ≤ 2097152
  moves : ∀ x ∈ m.moves, (0 ≤ x.region ∧ x.region < 2 ^ 63) ∧ 0 ≤ x.to ∧ x.to < 2 ^ 63
  base : N63 m.base
  next : m.next.Good
  state : m.state.Good
  report : m.report.Good

def fieldB (m : Msg) : Nat → List Int
  | 0 => nB m.region
  | 1 => reqB m.req
  | 2 => idB m.op
  | 3 => nB m.err
  | 4 => bB m.settled
  | 5 => listB nodeL m.nodes
  | 6 => nB m.slot
  | 7 => listB idB m.ids
  | 8 => nB m.round
  | 9 => listB nB m.cores
  | 10 => repB m.report
  | 11 => nB m.base
  | 12 => viewB m.next
  | 13 => stateB m.state
  | 14 => listB moveB m.moves
  | _ => []

theorem fieldB_le (m : Msg) (h : m.Good) (f : Nat) : (fieldB m f).length ≤ 7000000000 := by
  have b5 := listB_le nodeL 411 _ m.nodes (fun x _ => nodeL_le x) h.nodesn
  have b7 := listB_le idB 33 _ m.ids (fun x _ => idB_le x) h.idsn
  have b9 := listB_le nB 11 _ m.cores (fun x _ => nB_le x) h.coresn
  have b14 := listB_le moveB 22 _ m.moves (fun x _ => moveB_le x) h.movesn
  have b10 := repB_le _ h.report
  have b12 := viewB_le _ h.next
  have b13 := stateB_le _ h.state
  have b1 := reqB_le m.req
  have b2 := idB_le m.op
  have b4 := bB_le m.settled
  have b0 := nB_le m.region
  have b3 := nB_le m.err
  have b6 := nB_le m.slot
  have b8 := nB_le m.round
  have b11 := nB_le m.base
  unfold fieldB
  split <;> first | omega | simp

theorem s20 (m : Msg) (h : m.Good) (l : List Int) (hl : l.length ≤ 50000000000) : ∀ f : Nat, f < 15 → g20 (byteCells l) m.kind m.view m.frm m.to m.round m.region m.slot m.op.core m.op.op m.op.part m.err m.settled m.req.id.core m.req.id.op m.req.id.part m.req.call.kind m.req.call.slot m.req.call.dest m.req.call.core m.req.call.mask m.req.call.object m.req.call.bits m.req.call.level m.req.call.offset m.req.call.count m.req.call.index m.req.call.addr m.req.region m.req.width m.req.src.id.core m.req.src.id.op m.req.src.id.part (idCells m.req.src.path) m.req.src.cap.kind m.req.src.cap.base m.req.src.cap.bits m.req.src.cap.rights m.req.src.cap.width m.req.src.cap.level m.req.src.cap.device (idCells m.ids) (m.nodes.map nodec) (intCells m.cores) (m.moves.map movec) m.base m.next.number (intCells m.next.members) (intCells m.next.owners) (m.state.slots.map slotc) (m.state.pending.map reqc) (m.state.marks.map markc) (m.state.answers.map ansc) (m.state.entries.map entryc) (idCells m.state.commits) m.report.core m.report.view.number (intCells m.report.view.members) (intCells m.report.view.owners) (m.report.state.slots.map slotc) (m.report.state.pending.map reqc) (m.report.state.marks.map markc) (m.report.state.answers.map ansc) (m.report.state.entries.map entryc) (idCells m.report.state.commits) m.report.ready m.report.next.number (intCells m.report.next.members) (intCells m.report.next.owners) (m.report.proposal.slots.map slotc) (m.report.proposal.pending.map reqc) (m.report.proposal.marks.map markc) (m.report.proposal.answers.map ansc) (m.report.proposal.entries.map entryc) (idCells m.report.proposal.commits) (f : Int) = some (byteCells (l ++ fieldB m f))
  | 0, _ => (g20_eq ..).trans (congrArg (fun x => Option.bind x some) (s18 l (by omega) h.region.1 h.region.2))
  | 1, _ => (g20_eq ..).trans (congrArg (fun x => Option.bind x some) (s73 l (by omega) _ h.req))
  | 2, _ => (g20_eq ..).trans (congrArg (fun x => Option.bind x some) (s74 l (by omega) h.op))
  | 3, _ => (g20_eq ..).trans (congrArg (fun x => Option.bind x some) (s18 l (by omega) h.err.1 h.err.2))
  | 4, _ => (g20_eq ..).trans (congrArg (fun x => Option.bind x some) (s75 l (by omega) _))
  | 5, _ => (g20_eq ..).trans (congrArg (fun x => Option.bind x some) (s76 l _ (by have := h.nodesn; omega) (by have := h.nodesn; omega) h.nodes))
  | 6, _ => (g20_eq ..).trans (congrArg (fun x => Option.bind x some) (s18 l (by omega) h.slot.1 h.slot.2))
  | 7, _ => (g20_eq ..).trans (congrArg (fun x => Option.bind x some) (s77 l _ (by have := h.idsn; omega) (by have := h.idsn; omega) h.ids))
  | 8, _ => (g20_eq ..).trans (congrArg (fun x => Option.bind x some) (s18 l (by omega) h.round.1 h.round.2))
  | 9, _ => (g20_eq ..).trans (congrArg (fun x => Option.bind x some) (s78 l _ (by have := h.coresn; omega) (by have := h.coresn; omega) h.cores))
  | 10, _ => (g20_eq ..).trans (congrArg (fun x => Option.bind x some) (s79 l hl _ h.report))
  | 11, _ => (g20_eq ..).trans (congrArg (fun x => Option.bind x some) (s18 l (by omega) h.base.1 h.base.2))
  | 12, _ => (g20_eq ..).trans (congrArg (fun x => Option.bind x some) (s80 l (by omega) _ h.next))
  | 13, _ => (g20_eq ..).trans (congrArg (fun x => Option.bind x some) (s81 l (by omega) _ h.state))
  | 14, _ => (g20_eq ..).trans (congrArg (fun x => Option.bind x some) (s82 l _ (by have := h.movesn; omega) (by have := h.movesn; omega) h.moves))

def headB (m : Msg) : List Int := nB m.kind ++ (nB m.view ++ (nB m.frm ++ nB m.to))
def msgB (m : Msg) : List Int := headB m ++ ((kf m.kind.toNat).map (fieldB m)).flatten

theorem kf_len (n : Nat) : (kf n).length ≤ 5 := by unfold kf; split <;> simp

theorem l7a (m : Msg) (h : m.Good) (L : List Nat) (hL : ∀ f ∈ L, f < 15) (hn : L.length ≤ 5) (acc : List Int) (ha : acc.length ≤ 10000000000) :
    g7L0 FUEL m.kind m.view m.frm m.to m.round m.region m.slot m.op.core m.op.op m.op.part m.err m.settled m.req.id.core m.req.id.op m.req.id.part m.req.call.kind m.req.call.slot m.req.call.dest m.req.call.core m.req.call.mask m.req.call.object m.req.call.bits m.req.call.level m.req.call.offset m.req.call.count m.req.call.index m.req.call.addr m.req.region m.req.width m.req.src.id.core m.req.src.id.op m.req.src.id.part (idCells m.req.src.path) m.req.src.cap.kind m.req.src.cap.base m.req.src.cap.bits m.req.src.cap.rights m.req.src.cap.width m.req.src.cap.level m.req.src.cap.device (idCells m.ids) (m.nodes.map nodec) (intCells m.cores) (m.moves.map movec) m.base m.next.number (intCells m.next.members) (intCells m.next.owners) (m.state.slots.map slotc) (m.state.pending.map reqc) (m.state.marks.map markc) (m.state.answers.map ansc) (m.state.entries.map entryc) (idCells m.state.commits) m.report.core m.report.view.number (intCells m.report.view.members) (intCells m.report.view.owners) (m.report.state.slots.map slotc) (m.report.state.pending.map reqc) (m.report.state.marks.map markc) (m.report.state.answers.map ansc) (m.report.state.entries.map entryc) (idCells m.report.state.commits) m.report.ready m.report.next.number (intCells m.report.next.members) (intCells m.report.next.owners) (m.report.proposal.slots.map slotc) (m.report.proposal.pending.map reqc) (m.report.proposal.marks.map markc) (m.report.proposal.answers.map ansc) (m.report.proposal.entries.map entryc) (idCells m.report.proposal.commits) (fc L) (L.length : Int) 0 (byteCells acc) = some (byteCells (acc ++ (L.map (fieldB m)).flatten), 0) := by
  refine scan_appG (F := fun k a i => g7L0 k m.kind m.view m.frm m.to m.round m.region m.slot m.op.core m.op.op m.op.part m.err m.settled m.req.id.core m.req.id.op m.req.id.part m.req.call.kind m.req.call.slot m.req.call.dest m.req.call.core m.req.call.mask m.req.call.object m.req.call.bits m.req.call.level m.req.call.offset m.req.call.count m.req.call.index m.req.call.addr m.req.region m.req.width m.req.src.id.core m.req.src.id.op m.req.src.id.part (idCells m.req.src.path) m.req.src.cap.kind m.req.src.cap.base m.req.src.cap.bits m.req.src.cap.rights m.req.src.cap.width m.req.src.cap.level m.req.src.cap.device (idCells m.ids) (m.nodes.map nodec) (intCells m.cores) (m.moves.map movec) m.base m.next.number (intCells m.next.members) (intCells m.next.owners) (m.state.slots.map slotc) (m.state.pending.map reqc) (m.state.marks.map markc) (m.state.answers.map ansc) (m.state.entries.map entryc) (idCells m.state.commits) m.report.core m.report.view.number (intCells m.report.view.members) (intCells m.report.view.owners) (m.report.state.slots.map slotc) (m.report.state.pending.map reqc) (m.report.state.marks.map markc) (m.report.state.answers.map ansc) (m.report.state.entries.map entryc) (idCells m.report.state.commits) m.report.ready m.report.next.number (intCells m.report.next.members) (intCells m.report.next.owners) (m.report.proposal.slots.map slotc) (m.report.proposal.pending.map reqc) (m.report.proposal.marks.map markc) (m.report.proposal.answers.map ansc) (m.report.proposal.entries.map entryc) (idCells m.report.proposal.commits) (fc L) (L.length : Int) i a) (l := L) (fieldB m) (fun acc => some (byteCells acc, 0)) 7000000000 50000000000 (by omega) (fun x _ => fieldB_le m h x) (fun k i acc hi ha => ?_) (fun k i acc hi ha => ?_) acc (by omega)
  · refine (g7L0_eq ..).trans ?_
    rw [if_pos (lss_t hi)]
    refine (elem_fc hi _).trans ?_
    rw [s20 m h acc ha _ (hL _ (List.getElem_mem hi)), Option.bind_some, inc_i hi (by omega)]
  · refine (g7L0_eq ..).trans ?_
    rw [if_neg (lss_f hi)]

theorem s7 (m : Msg) (hf : m.Fits) (h : validB m = true → m.Good) : g7 m.kind m.view m.frm m.to m.round m.region m.slot m.op.core m.op.op m.op.part m.err m.settled m.req.id.core m.req.id.op m.req.id.part m.req.call.kind m.req.call.slot m.req.call.dest m.req.call.core m.req.call.mask m.req.call.object m.req.call.bits m.req.call.level m.req.call.offset m.req.call.count m.req.call.index m.req.call.addr m.req.region m.req.width m.req.src.id.core m.req.src.id.op m.req.src.id.part (idCells m.req.src.path) m.req.src.cap.kind m.req.src.cap.base m.req.src.cap.bits m.req.src.cap.rights m.req.src.cap.width m.req.src.cap.level m.req.src.cap.device (idCells m.ids) (m.nodes.map nodec) (intCells m.cores) (m.moves.map movec) m.base m.next.number (intCells m.next.members) (intCells m.next.owners) (m.state.slots.map slotc) (m.state.pending.map reqc) (m.state.marks.map markc) (m.state.answers.map ansc) (m.state.entries.map entryc) (idCells m.state.commits) m.report.core m.report.view.number (intCells m.report.view.members) (intCells m.report.view.owners) (m.report.state.slots.map slotc) (m.report.state.pending.map reqc) (m.report.state.marks.map markc) (m.report.state.answers.map ansc) (m.report.state.entries.map entryc) (idCells m.report.state.commits) m.report.ready m.report.next.number (intCells m.report.next.members) (intCells m.report.next.owners) (m.report.proposal.slots.map slotc) (m.report.proposal.pending.map reqc) (m.report.proposal.marks.map markc) (m.report.proposal.answers.map ansc) (m.report.proposal.entries.map entryc) (idCells m.report.proposal.commits) = some (if validB m = true then (byteCells (msgB m), 0) else (([] : List (List AV)), 1)) := by
  rw [g7_eq, s9 m hf, Option.bind_some]
  cases hv : validB m with
  | false => rfl
  | true =>
    have hg := h hv
    rw [if_neg (by simp), if_pos rfl]
    have hk : 1 ≤ m.kind ∧ m.kind ≤ 17 := by
      unfold validB headOk kindOk at hv
      simp only [Bool.and_eq_true, decide_eq_true_eq] at hv
      exact hv.1.1.1.1
    obtain ⟨n, hn⟩ : ∃ n : Nat, m.kind = n := ⟨m.kind.toNat, by omega⟩
    have e19 : g19 m.kind = some (fc (kf n), true) := by rw [hn]; exact s19 n (by omega) (by omega)
    have hk2 : m.kind.toNat = n := by omega
    have hlen : (fc (kf n)).length = (kf n).length := List.length_map _
    have e := scan_appG (F := fun k a i => g7L1 k m.kind m.view m.frm m.to m.round m.region m.slot m.op.core m.op.op m.op.part m.err m.settled m.req.id.core m.req.id.op m.req.id.part m.req.call.kind m.req.call.slot m.req.call.dest m.req.call.core m.req.call.mask m.req.call.object m.req.call.bits m.req.call.level m.req.call.offset m.req.call.count m.req.call.index m.req.call.addr m.req.region m.req.width m.req.src.id.core m.req.src.id.op m.req.src.id.part (idCells m.req.src.path) m.req.src.cap.kind m.req.src.cap.base m.req.src.cap.bits m.req.src.cap.rights m.req.src.cap.width m.req.src.cap.level m.req.src.cap.device (idCells m.ids) (m.nodes.map nodec) (intCells m.cores) (m.moves.map movec) m.base m.next.number (intCells m.next.members) (intCells m.next.owners) (m.state.slots.map slotc) (m.state.pending.map reqc) (m.state.marks.map markc) (m.state.answers.map ansc) (m.state.entries.map entryc) (idCells m.state.commits) m.report.core m.report.view.number (intCells m.report.view.members) (intCells m.report.view.owners) (m.report.state.slots.map slotc) (m.report.state.pending.map reqc) (m.report.state.marks.map markc) (m.report.state.answers.map ansc) (m.report.state.entries.map entryc) (idCells m.report.state.commits) m.report.ready m.report.next.number (intCells m.report.next.members) (intCells m.report.next.owners) (m.report.proposal.slots.map slotc) (m.report.proposal.pending.map reqc) (m.report.proposal.marks.map markc) (m.report.proposal.answers.map ansc) (m.report.proposal.entries.map entryc) (idCells m.report.proposal.commits) (intCells [m.kind, m.view, m.frm, m.to]) (([m.kind, m.view, m.frm, m.to] : List Int).length : Int) i a) (l := [m.kind, m.view, m.frm, m.to]) nB (fun acc => some (byteCells (acc ++ ((kf n).map (fieldB m)).flatten), 0)) 11 1000 (by simp) (fun x _ => nB_le x)
      (fun k i acc hi ha => by
        refine (g7L1_eq ..).trans ?_
        have hz : N63 ([m.kind, m.view, m.frm, m.to] : List Int)[i] := by
          have := List.getElem_mem hi
          simp only [List.mem_cons, List.not_mem_nil, or_false] at this
          rcases this with e | e | e | e
          · rw [e]; exact hg.kind
          · rw [e]; exact hg.view
          · rw [e]; exact hg.frm
          · rw [e]; exact hg.to
        rw [if_pos (lss_t hi)]
        refine (elem_ints hi _).trans ?_
        rw [s18 acc (by omega) hz.1 hz.2, Option.bind_some, inc_i hi (by simp)])
      (fun k i acc hi ha => by
        refine (g7L1_eq ..).trans ?_
        rw [if_neg (lss_f hi), e19, Option.bind_some]
        dsimp only
        rw [hlen, l7a m hg (kf n) (kf_lt n) (kf_len n) acc (by omega)])
      [] (by simp)
    refine Eq.trans e ?_
    simp only [msgB, headB, hk2, List.map_cons, List.map_nil, List.flatten_cons, List.flatten_nil, List.nil_append, List.append_nil, List.append_assoc]

theorem l8 (m : Msg) (h : m.Good) (acc : List Int) (ha : acc.length ≤ 10000000000) : g8L0 FUEL m.kind m.view m.frm m.to m.round m.region m.slot m.op.core m.op.op m.op.part m.err m.settled m.req.id.core m.req.id.op m.req.id.part m.req.call.kind m.req.call.slot m.req.call.dest m.req.call.core m.req.call.mask m.req.call.object m.req.call.bits m.req.call.level m.req.call.offset m.req.call.count m.req.call.index m.req.call.addr m.req.region m.req.width m.req.src.id.core m.req.src.id.op m.req.src.id.part (idCells m.req.src.path) m.req.src.cap.kind m.req.src.cap.base m.req.src.cap.bits m.req.src.cap.rights m.req.src.cap.width m.req.src.cap.level m.req.src.cap.device (idCells m.ids) (m.nodes.map nodec) (intCells m.cores) (m.moves.map movec) m.base m.next.number (intCells m.next.members) (intCells m.next.owners) (m.state.slots.map slotc) (m.state.pending.map reqc) (m.state.marks.map markc) (m.state.answers.map ansc) (m.state.entries.map entryc) (idCells m.state.commits) m.report.core m.report.view.number (intCells m.report.view.members) (intCells m.report.view.owners) (m.report.state.slots.map slotc) (m.report.state.pending.map reqc) (m.report.state.marks.map markc) (m.report.state.answers.map ansc) (m.report.state.entries.map entryc) (idCells m.report.state.commits) m.report.ready m.report.next.number (intCells m.report.next.members) (intCells m.report.next.owners) (m.report.proposal.slots.map slotc) (m.report.proposal.pending.map reqc) (m.report.proposal.marks.map markc) (m.report.proposal.answers.map ansc) (m.report.proposal.entries.map entryc) (idCells m.report.proposal.commits) (byteCells acc) 0 = some (byteCells (acc ++ (m.nodes.map nodeL).flatten), 0) := by
  have hn := h.nodesn
  have hn' : m.nodes.length < 2 ^ 63 := by omega
  refine scan_appG (F := fun k a i => g8L0 k m.kind m.view m.frm m.to m.round m.region m.slot m.op.core m.op.op m.op.part m.err m.settled m.req.id.core m.req.id.op m.req.id.part m.req.call.kind m.req.call.slot m.req.call.dest m.req.call.core m.req.call.mask m.req.call.object m.req.call.bits m.req.call.level m.req.call.offset m.req.call.count m.req.call.index m.req.call.addr m.req.region m.req.width m.req.src.id.core m.req.src.id.op m.req.src.id.part (idCells m.req.src.path) m.req.src.cap.kind m.req.src.cap.base m.req.src.cap.bits m.req.src.cap.rights m.req.src.cap.width m.req.src.cap.level m.req.src.cap.device (idCells m.ids) (m.nodes.map nodec) (intCells m.cores) (m.moves.map movec) m.base m.next.number (intCells m.next.members) (intCells m.next.owners) (m.state.slots.map slotc) (m.state.pending.map reqc) (m.state.marks.map markc) (m.state.answers.map ansc) (m.state.entries.map entryc) (idCells m.state.commits) m.report.core m.report.view.number (intCells m.report.view.members) (intCells m.report.view.owners) (m.report.state.slots.map slotc) (m.report.state.pending.map reqc) (m.report.state.marks.map markc) (m.report.state.answers.map ansc) (m.report.state.entries.map entryc) (idCells m.report.state.commits) m.report.ready m.report.next.number (intCells m.report.next.members) (intCells m.report.next.owners) (m.report.proposal.slots.map slotc) (m.report.proposal.pending.map reqc) (m.report.proposal.marks.map markc) (m.report.proposal.answers.map ansc) (m.report.proposal.entries.map entryc) (idCells m.report.proposal.commits) a i) (l := m.nodes) nodeL (fun acc => some (byteCells acc, 0)) 411 50000000000 hn' (fun x _ => nodeL_le x) (fun k i acc hi ha => ?_) (fun k i acc hi ha => ?_) acc (by omega)
  · refine (g8L0_eq ..).trans ?_
    rw [List.length_map, if_pos (lss_t hi)]
    refine (elem_nodes hi _).trans ?_
    simp only [nodeV, d2, d4, d8, d16]
    rw [s30 acc (by omega) _ (h.nodes _ (List.getElem_mem hi)), Option.bind_some, inc_i hi hn']
  · refine (g8L0_eq ..).trans ?_
    rw [List.length_map, if_neg (lss_f hi)]

theorem l8m (m : Msg) (hk : m.kind = 17) (h : m.Good) (acc : List Int) (ha : acc.length ≤ 10000000000) : g8L1 FUEL m.kind m.view m.frm m.to m.round m.region m.slot m.op.core m.op.op m.op.part m.err m.settled m.req.id.core m.req.id.op m.req.id.part m.req.call.kind m.req.call.slot m.req.call.dest m.req.call.core m.req.call.mask m.req.call.object m.req.call.bits m.req.call.level m.req.call.offset m.req.call.count m.req.call.index m.req.call.addr m.req.region m.req.width m.req.src.id.core m.req.src.id.op m.req.src.id.part (idCells m.req.src.path) m.req.src.cap.kind m.req.src.cap.base m.req.src.cap.bits m.req.src.cap.rights m.req.src.cap.width m.req.src.cap.level m.req.src.cap.device (idCells m.ids) (m.nodes.map nodec) (intCells m.cores) (m.moves.map movec) m.base m.next.number (intCells m.next.members) (intCells m.next.owners) (m.state.slots.map slotc) (m.state.pending.map reqc) (m.state.marks.map markc) (m.state.answers.map ansc) (m.state.entries.map entryc) (idCells m.state.commits) m.report.core m.report.view.number (intCells m.report.view.members) (intCells m.report.view.owners) (m.report.state.slots.map slotc) (m.report.state.pending.map reqc) (m.report.state.marks.map markc) (m.report.state.answers.map ansc) (m.report.state.entries.map entryc) (idCells m.report.state.commits) m.report.ready m.report.next.number (intCells m.report.next.members) (intCells m.report.next.owners) (m.report.proposal.slots.map slotc) (m.report.proposal.pending.map reqc) (m.report.proposal.marks.map markc) (m.report.proposal.answers.map ansc) (m.report.proposal.entries.map entryc) (idCells m.report.proposal.commits) (byteCells acc) 0 = some (byteCells (acc ++ (m.moves.map moveB).flatten), 0) := by
  have hn := h.movesn
  have hn' : m.moves.length < 2 ^ 63 := by omega
  refine scan_appG (F := fun k a i => g8L1 k m.kind m.view m.frm m.to m.round m.region m.slot m.op.core m.op.op m.op.part m.err m.settled m.req.id.core m.req.id.op m.req.id.part m.req.call.kind m.req.call.slot m.req.call.dest m.req.call.core m.req.call.mask m.req.call.object m.req.call.bits m.req.call.level m.req.call.offset m.req.call.count m.req.call.index m.req.call.addr m.req.region m.req.width m.req.src.id.core m.req.src.id.op m.req.src.id.part (idCells m.req.src.path) m.req.src.cap.kind m.req.src.cap.base m.req.src.cap.bits m.req.src.cap.rights m.req.src.cap.width m.req.src.cap.level m.req.src.cap.device (idCells m.ids) (m.nodes.map nodec) (intCells m.cores) (m.moves.map movec) m.base m.next.number (intCells m.next.members) (intCells m.next.owners) (m.state.slots.map slotc) (m.state.pending.map reqc) (m.state.marks.map markc) (m.state.answers.map ansc) (m.state.entries.map entryc) (idCells m.state.commits) m.report.core m.report.view.number (intCells m.report.view.members) (intCells m.report.view.owners) (m.report.state.slots.map slotc) (m.report.state.pending.map reqc) (m.report.state.marks.map markc) (m.report.state.answers.map ansc) (m.report.state.entries.map entryc) (idCells m.report.state.commits) m.report.ready m.report.next.number (intCells m.report.next.members) (intCells m.report.next.owners) (m.report.proposal.slots.map slotc) (m.report.proposal.pending.map reqc) (m.report.proposal.marks.map markc) (m.report.proposal.answers.map ansc) (m.report.proposal.entries.map entryc) (idCells m.report.proposal.commits) a i) (l := m.moves) moveB (fun acc => some (byteCells acc, 0)) 22 50000000000 hn' (fun x _ => moveB_le x) (fun k i acc hi ha => ?_) (fun k i acc hi ha => ?_) acc (by omega)
  · refine (g8L1_eq ..).trans ?_
    have hz := h.moves _ (List.getElem_mem hi)
    have b1 := nB_le m.moves[i].region
    rw [List.length_map, if_pos (lss_t hi)]
    refine (elem_moves hi _).trans ?_
    simp only [elem_moves hi]
    rw [s21 acc (by omega) hz.1.1 hz.1.2, Option.bind_some, s21 _ (by rw [List.length_append]; omega) hz.2.1 hz.2.2, Option.bind_some, inc_i hi hn', List.append_assoc]
    rfl
  · refine (g8L1_eq ..).trans ?_
    rw [List.length_map, if_neg (lss_f hi), if_neg (show ¬ (cop .eql m.kind 2) = true by simp only [CQ]; omega), if_neg (show ¬ (cop .eql m.kind 4) = true by simp only [CQ]; omega)]

theorem boundsB (m : Msg) (h : m.Good) : (nB m.region).length ≤ 11 ∧ (reqB m.req).length ≤ 598 ∧ (idB m.op).length ≤ 33 ∧ (nB m.err).length ≤ 11 ∧ (bB m.settled).length ≤ 11 ∧ (nB m.slot).length ≤ 11 ∧ (nB m.round).length ≤ 11 ∧ (nB m.base).length ≤ 11 ∧
    m.nodes.length ≤ 2097152 ∧ m.ids.length ≤ 2097152 ∧ m.cores.length ≤ 2097152 ∧ m.moves.length ≤ 2097152 ∧ (nB (m.nodes.length : Int)).length ≤ 11 ∧ (nB (m.moves.length : Int)).length ≤ 11 ∧ (listB idB m.ids).length ≤ 11 + 33 * 2097152 ∧ (listB nB m.cores).length ≤ 11 + 11 * 2097152 ∧
    (repB m.report).length ≤ 7000000000 ∧ (viewB m.next).length ≤ 50000000 ∧ (stateB m.state).length ≤ 3400000000 ∧ (nB m.kind).length ≤ 11 ∧ (nB m.view).length ≤ 11 ∧ (nB m.frm).length ≤ 11 ∧ (nB m.to).length ≤ 11 :=
  ⟨nB_le m.region, reqB_le m.req, idB_le m.op, nB_le m.err, bB_le m.settled, nB_le m.slot, nB_le m.round, nB_le m.base, h.nodesn, h.idsn, h.coresn, h.movesn, nB_le _, nB_le _, listB_le idB 33 _ m.ids (fun x _ => idB_le x) h.idsn, listB_le nB 11 _ m.cores (fun x _ => nB_le x) h.coresn,
    repB_le _ h.report, viewB_le _ h.next, stateB_le _ h.state, nB_le m.kind, nB_le m.view, nB_le m.frm, nB_le m.to⟩

@[reducible] noncomputable def G8 (m : Msg) := g8 m.kind m.view m.frm m.to m.round m.region m.slot m.op.core m.op.op m.op.part m.err m.settled m.req.id.core m.req.id.op m.req.id.part m.req.call.kind m.req.call.slot m.req.call.dest m.req.call.core m.req.call.mask m.req.call.object m.req.call.bits m.req.call.level m.req.call.offset m.req.call.count m.req.call.index m.req.call.addr m.req.region m.req.width m.req.src.id.core m.req.src.id.op m.req.src.id.part (idCells m.req.src.path) m.req.src.cap.kind m.req.src.cap.base m.req.src.cap.bits m.req.src.cap.rights m.req.src.cap.width m.req.src.cap.level m.req.src.cap.device (idCells m.ids) (m.nodes.map nodec) (intCells m.cores) (m.moves.map movec) m.base m.next.number (intCells m.next.members) (intCells m.next.owners) (m.state.slots.map slotc) (m.state.pending.map reqc) (m.state.marks.map markc) (m.state.answers.map ansc) (m.state.entries.map entryc) (idCells m.state.commits) m.report.core m.report.view.number (intCells m.report.view.members) (intCells m.report.view.owners) (m.report.state.slots.map slotc) (m.report.state.pending.map reqc) (m.report.state.marks.map markc) (m.report.state.answers.map ansc) (m.report.state.entries.map entryc) (idCells m.report.state.commits) m.report.ready m.report.next.number (intCells m.report.next.members) (intCells m.report.next.owners) (m.report.proposal.slots.map slotc) (m.report.proposal.pending.map reqc) (m.report.proposal.marks.map markc) (m.report.proposal.answers.map ansc) (m.report.proposal.entries.map entryc) (idCells m.report.proposal.commits)

theorem s8k1 (m : Msg) (hf : m.Fits) (h : m.Good) (hv : validB m = true) (hk : m.kind = 1) : G8 m = some (byteCells (headB m ++ ((kf 1).map (fieldB m)).flatten), 0) := by
  obtain ⟨b0, b1, b2, b3, b4, b6, b8, b11, n5, n7, n9, n14, b5, b14, b7, b9, b10, b12, b13, k0, k1, k2, k3⟩ := boundsB m h
  have e0 : ([] : LL) = byteCells [] := rfl
  unfold G8
  rw [g8_eq, s10 m hf, Option.bind_some, hv, if_neg (show ¬ (!true) = true by decide), e0, s21 [] (by simp) h.kind.1 h.kind.2, Option.bind_some, s21 _ (by simp only [List.length_append, List.length_nil]; omega) h.view.1 h.view.2, Option.bind_some, s21 _ (by simp only [List.length_append, List.length_nil]; omega) h.frm.1 h.frm.2, Option.bind_some, s21 _ (by simp only [List.length_append, List.length_nil]; omega) h.to.1 h.to.2, Option.bind_some]
  rw [if_pos (keq hk)]
  rw [s21 _ (by simp only [List.length_append, List.length_nil]; omega) h.region.1 h.region.2, Option.bind_some]
  rw [s22 _ (by simp only [List.length_append, List.length_nil]; omega) _ h.req, Option.bind_some]
  rw [if_neg (kne (show m.kind ≠ 2 by omega))]
  rw [if_neg (kne (show m.kind ≠ 4 by omega))]
  simp only [headB, kf, fieldB, listB, List.map_cons, List.map_nil, List.flatten_cons, List.flatten_nil, List.nil_append, List.append_nil, List.append_assoc]

theorem s8k2 (m : Msg) (hf : m.Fits) (h : m.Good) (hv : validB m = true) (hk : m.kind = 2) : G8 m = some (byteCells (headB m ++ ((kf 2).map (fieldB m)).flatten), 0) := by
  obtain ⟨b0, b1, b2, b3, b4, b6, b8, b11, n5, n7, n9, n14, b5, b14, b7, b9, b10, b12, b13, k0, k1, k2, k3⟩ := boundsB m h
  have e0 : ([] : LL) = byteCells [] := rfl
  unfold G8
  rw [g8_eq, s10 m hf, Option.bind_some, hv, if_neg (show ¬ (!true) = true by decide), e0, s21 [] (by simp) h.kind.1 h.kind.2, Option.bind_some, s21 _ (by simp only [List.length_append, List.length_nil]; omega) h.view.1 h.view.2, Option.bind_some, s21 _ (by simp only [List.length_append, List.length_nil]; omega) h.frm.1 h.frm.2, Option.bind_some, s21 _ (by simp only [List.length_append, List.length_nil]; omega) h.to.1 h.to.2, Option.bind_some]
  rw [if_neg (kne (show m.kind ≠ 1 by omega))]
  rw [if_pos (keq hk)]
  rw [s21 _ (by simp only [List.length_append, List.length_nil]; omega) h.region.1 h.region.2, Option.bind_some]
  rw [s24' _ (by simp only [List.length_append, List.length_nil]; omega) h.op, Option.bind_some]
  rw [s21 _ (by simp only [List.length_append, List.length_nil]; omega) h.err.1 h.err.2, Option.bind_some]
  rw [s23 _ (by simp only [List.length_append, List.length_nil]; omega), Option.bind_some]
  rw [if_pos (keq hk)]
  rw [List.length_map, s21 _ (by simp only [List.length_append, List.length_nil]; omega) (by omega) (by omega), Option.bind_some]
  rw [l8 m h _ (by simp only [List.length_append, List.length_nil]; omega)]
  simp only [headB, kf, fieldB, listB, List.map_cons, List.map_nil, List.flatten_cons, List.flatten_nil, List.nil_append, List.append_nil, List.append_assoc]

theorem s8k3 (m : Msg) (hf : m.Fits) (h : m.Good) (hv : validB m = true) (hk : m.kind = 3) : G8 m = some (byteCells (headB m ++ ((kf 3).map (fieldB m)).flatten), 0) := by
  obtain ⟨b0, b1, b2, b3, b4, b6, b8, b11, n5, n7, n9, n14, b5, b14, b7, b9, b10, b12, b13, k0, k1, k2, k3⟩ := boundsB m h
  have e0 : ([] : LL) = byteCells [] := rfl
  unfold G8
  rw [g8_eq, s10 m hf, Option.bind_some, hv, if_neg (show ¬ (!true) = true by decide), e0, s21 [] (by simp) h.kind.1 h.kind.2, Option.bind_some, s21 _ (by simp only [List.length_append, List.length_nil]; omega) h.view.1 h.view.2, Option.bind_some, s21 _ (by simp only [List.length_append, List.length_nil]; omega) h.frm.1 h.frm.2, Option.bind_some, s21 _ (by simp only [List.length_append, List.length_nil]; omega) h.to.1 h.to.2, Option.bind_some]
  rw [if_neg (kne (show m.kind ≠ 1 by omega))]
  rw [if_neg (kne (show m.kind ≠ 2 by omega))]
  rw [if_neg (kne (show m.kind ≠ 4 by omega))]
  rw [if_neg (kne (show m.kind ≠ 5 by omega))]
  rw [if_neg (kne (show m.kind ≠ 6 by omega))]
  rw [if_neg (kne (show m.kind ≠ 12 by omega))]
  rw [if_neg (kne (show m.kind ≠ 13 by omega))]
  rw [if_neg (kne (show m.kind ≠ 14 by omega))]
  rw [if_neg (kne (show m.kind ≠ 15 by omega))]
  rw [if_neg (kne (show m.kind ≠ 16 by omega))]
  rw [if_neg (kne (show m.kind ≠ 17 by omega))]
  rw [s21 _ (by simp only [List.length_append, List.length_nil]; omega) h.region.1 h.region.2, Option.bind_some]
  rw [s24' _ (by simp only [List.length_append, List.length_nil]; omega) h.op, Option.bind_some]
  rw [if_neg (kne (show m.kind ≠ 2 by omega))]
  rw [if_neg (kne (show m.kind ≠ 4 by omega))]
  simp only [headB, kf, fieldB, listB, List.map_cons, List.map_nil, List.flatten_cons, List.flatten_nil, List.nil_append, List.append_nil, List.append_assoc]

theorem s8k4 (m : Msg) (hf : m.Fits) (h : m.Good) (hv : validB m = true) (hk : m.kind = 4) : G8 m = some (byteCells (headB m ++ ((kf 4).map (fieldB m)).flatten), 0) := by
  obtain ⟨b0, b1, b2, b3, b4, b6, b8, b11, n5, n7, n9, n14, b5, b14, b7, b9, b10, b12, b13, k0, k1, k2, k3⟩ := boundsB m h
  have e0 : ([] : LL) = byteCells [] := rfl
  unfold G8
  rw [g8_eq, s10 m hf, Option.bind_some, hv, if_neg (show ¬ (!true) = true by decide), e0, s21 [] (by simp) h.kind.1 h.kind.2, Option.bind_some, s21 _ (by simp only [List.length_append, List.length_nil]; omega) h.view.1 h.view.2, Option.bind_some, s21 _ (by simp only [List.length_append, List.length_nil]; omega) h.frm.1 h.frm.2, Option.bind_some, s21 _ (by simp only [List.length_append, List.length_nil]; omega) h.to.1 h.to.2, Option.bind_some]
  rw [if_neg (kne (show m.kind ≠ 1 by omega))]
  rw [if_neg (kne (show m.kind ≠ 2 by omega))]
  rw [if_pos (keq hk)]
  rw [s21 _ (by simp only [List.length_append, List.length_nil]; omega) h.region.1 h.region.2, Option.bind_some]
  rw [s24' _ (by simp only [List.length_append, List.length_nil]; omega) h.op, Option.bind_some]
  rw [s21 _ (by simp only [List.length_append, List.length_nil]; omega) h.slot.1 h.slot.2, Option.bind_some]
  rw [if_neg (kne (show m.kind ≠ 2 by omega))]
  rw [if_pos (keq hk)]
  rw [List.length_map, s21 _ (by simp only [List.length_append, List.length_nil]; omega) (by omega) (by omega), Option.bind_some]
  rw [l8 m h _ (by simp only [List.length_append, List.length_nil]; omega)]
  simp only [headB, kf, fieldB, listB, List.map_cons, List.map_nil, List.flatten_cons, List.flatten_nil, List.nil_append, List.append_nil, List.append_assoc]

theorem s8k5 (m : Msg) (hf : m.Fits) (h : m.Good) (hv : validB m = true) (hk : m.kind = 5) : G8 m = some (byteCells (headB m ++ ((kf 5).map (fieldB m)).flatten), 0) := by
  obtain ⟨b0, b1, b2, b3, b4, b6, b8, b11, n5, n7, n9, n14, b5, b14, b7, b9, b10, b12, b13, k0, k1, k2, k3⟩ := boundsB m h
  have e0 : ([] : LL) = byteCells [] := rfl
  unfold G8
  rw [g8_eq, s10 m hf, Option.bind_some, hv, if_neg (show ¬ (!true) = true by decide), e0, s21 [] (by simp) h.kind.1 h.kind.2, Option.bind_some, s21 _ (by simp only [List.length_append, List.length_nil]; omega) h.view.1 h.view.2, Option.bind_some, s21 _ (by simp only [List.length_append, List.length_nil]; omega) h.frm.1 h.frm.2, Option.bind_some, s21 _ (by simp only [List.length_append, List.length_nil]; omega) h.to.1 h.to.2, Option.bind_some]
  rw [if_neg (kne (show m.kind ≠ 1 by omega))]
  rw [if_neg (kne (show m.kind ≠ 2 by omega))]
  rw [if_neg (kne (show m.kind ≠ 4 by omega))]
  rw [if_pos (keq hk)]
  rw [s21 _ (by simp only [List.length_append, List.length_nil]; omega) h.region.1 h.region.2, Option.bind_some]
  rw [s24' _ (by simp only [List.length_append, List.length_nil]; omega) h.op, Option.bind_some]
  rw [s21 _ (by simp only [List.length_append, List.length_nil]; omega) h.err.1 h.err.2, Option.bind_some]
  rw [if_neg (kne (show m.kind ≠ 2 by omega))]
  rw [if_neg (kne (show m.kind ≠ 4 by omega))]
  simp only [headB, kf, fieldB, listB, List.map_cons, List.map_nil, List.flatten_cons, List.flatten_nil, List.nil_append, List.append_nil, List.append_assoc]

theorem s8k6 (m : Msg) (hf : m.Fits) (h : m.Good) (hv : validB m = true) (hk : m.kind = 6) : G8 m = some (byteCells (headB m ++ ((kf 6).map (fieldB m)).flatten), 0) := by
  obtain ⟨b0, b1, b2, b3, b4, b6, b8, b11, n5, n7, n9, n14, b5, b14, b7, b9, b10, b12, b13, k0, k1, k2, k3⟩ := boundsB m h
  have e0 : ([] : LL) = byteCells [] := rfl
  unfold G8
  rw [g8_eq, s10 m hf, Option.bind_some, hv, if_neg (show ¬ (!true) = true by decide), e0, s21 [] (by simp) h.kind.1 h.kind.2, Option.bind_some, s21 _ (by simp only [List.length_append, List.length_nil]; omega) h.view.1 h.view.2, Option.bind_some, s21 _ (by simp only [List.length_append, List.length_nil]; omega) h.frm.1 h.frm.2, Option.bind_some, s21 _ (by simp only [List.length_append, List.length_nil]; omega) h.to.1 h.to.2, Option.bind_some]
  rw [if_neg (kne (show m.kind ≠ 1 by omega))]
  rw [if_neg (kne (show m.kind ≠ 2 by omega))]
  rw [if_neg (kne (show m.kind ≠ 4 by omega))]
  rw [if_neg (kne (show m.kind ≠ 5 by omega))]
  rw [if_pos (keq hk)]
  rw [s21 _ (by simp only [List.length_append, List.length_nil]; omega) h.region.1 h.region.2, Option.bind_some]
  rw [s24' _ (by simp only [List.length_append, List.length_nil]; omega) h.op, Option.bind_some]
  rw [s25 _ _ (by simp only [List.length_append, List.length_nil]; omega) (by omega) h.ids, Option.bind_some]
  rw [if_neg (kne (show m.kind ≠ 2 by omega))]
  rw [if_neg (kne (show m.kind ≠ 4 by omega))]
  simp only [headB, kf, fieldB, listB, List.map_cons, List.map_nil, List.flatten_cons, List.flatten_nil, List.nil_append, List.append_nil, List.append_assoc]

theorem s8k7 (m : Msg) (hf : m.Fits) (h : m.Good) (hv : validB m = true) (hk : m.kind = 7) : G8 m = some (byteCells (headB m ++ ((kf 7).map (fieldB m)).flatten), 0) := by
  obtain ⟨b0, b1, b2, b3, b4, b6, b8, b11, n5, n7, n9, n14, b5, b14, b7, b9, b10, b12, b13, k0, k1, k2, k3⟩ := boundsB m h
  have e0 : ([] : LL) = byteCells [] := rfl
  unfold G8
  rw [g8_eq, s10 m hf, Option.bind_some, hv, if_neg (show ¬ (!true) = true by decide), e0, s21 [] (by simp) h.kind.1 h.kind.2, Option.bind_some, s21 _ (by simp only [List.length_append, List.length_nil]; omega) h.view.1 h.view.2, Option.bind_some, s21 _ (by simp only [List.length_append, List.length_nil]; omega) h.frm.1 h.frm.2, Option.bind_some, s21 _ (by simp only [List.length_append, List.length_nil]; omega) h.to.1 h.to.2, Option.bind_some]
  rw [if_neg (kne (show m.kind ≠ 1 by omega))]
  rw [if_neg (kne (show m.kind ≠ 2 by omega))]
  rw [if_neg (kne (show m.kind ≠ 4 by omega))]
  rw [if_neg (kne (show m.kind ≠ 5 by omega))]
  rw [if_neg (kne (show m.kind ≠ 6 by omega))]
  rw [if_neg (kne (show m.kind ≠ 12 by omega))]
  rw [if_neg (kne (show m.kind ≠ 13 by omega))]
  rw [if_neg (kne (show m.kind ≠ 14 by omega))]
  rw [if_neg (kne (show m.kind ≠ 15 by omega))]
  rw [if_neg (kne (show m.kind ≠ 16 by omega))]
  rw [if_neg (kne (show m.kind ≠ 17 by omega))]
  rw [s21 _ (by simp only [List.length_append, List.length_nil]; omega) h.region.1 h.region.2, Option.bind_some]
  rw [s24' _ (by simp only [List.length_append, List.length_nil]; omega) h.op, Option.bind_some]
  rw [if_neg (kne (show m.kind ≠ 2 by omega))]
  rw [if_neg (kne (show m.kind ≠ 4 by omega))]
  simp only [headB, kf, fieldB, listB, List.map_cons, List.map_nil, List.flatten_cons, List.flatten_nil, List.nil_append, List.append_nil, List.append_assoc]

theorem s8k8 (m : Msg) (hf : m.Fits) (h : m.Good) (hv : validB m = true) (hk : m.kind = 8) : G8 m = some (byteCells (headB m ++ ((kf 8).map (fieldB m)).flatten), 0) := by
  obtain ⟨b0, b1, b2, b3, b4, b6, b8, b11, n5, n7, n9, n14, b5, b14, b7, b9, b10, b12, b13, k0, k1, k2, k3⟩ := boundsB m h
  have e0 : ([] : LL) = byteCells [] := rfl
  unfold G8
  rw [g8_eq, s10 m hf, Option.bind_some, hv, if_neg (show ¬ (!true) = true by decide), e0, s21 [] (by simp) h.kind.1 h.kind.2, Option.bind_some, s21 _ (by simp only [List.length_append, List.length_nil]; omega) h.view.1 h.view.2, Option.bind_some, s21 _ (by simp only [List.length_append, List.length_nil]; omega) h.frm.1 h.frm.2, Option.bind_some, s21 _ (by simp only [List.length_append, List.length_nil]; omega) h.to.1 h.to.2, Option.bind_some]
  rw [if_neg (kne (show m.kind ≠ 1 by omega))]
  rw [if_neg (kne (show m.kind ≠ 2 by omega))]
  rw [if_neg (kne (show m.kind ≠ 4 by omega))]
  rw [if_neg (kne (show m.kind ≠ 5 by omega))]
  rw [if_neg (kne (show m.kind ≠ 6 by omega))]
  rw [if_neg (kne (show m.kind ≠ 12 by omega))]
  rw [if_neg (kne (show m.kind ≠ 13 by omega))]
  rw [if_neg (kne (show m.kind ≠ 14 by omega))]
  rw [if_neg (kne (show m.kind ≠ 15 by omega))]
  rw [if_neg (kne (show m.kind ≠ 16 by omega))]
  rw [if_neg (kne (show m.kind ≠ 17 by omega))]
  rw [s21 _ (by simp only [List.length_append, List.length_nil]; omega) h.region.1 h.region.2, Option.bind_some]
  rw [s24' _ (by simp only [List.length_append, List.length_nil]; omega) h.op, Option.bind_some]
  rw [if_neg (kne (show m.kind ≠ 2 by omega))]
  rw [if_neg (kne (show m.kind ≠ 4 by omega))]
  simp only [headB, kf, fieldB, listB, List.map_cons, List.map_nil, List.flatten_cons, List.flatten_nil, List.nil_append, List.append_nil, List.append_assoc]

theorem s8k9 (m : Msg) (hf : m.Fits) (h : m.Good) (hv : validB m = true) (hk : m.kind = 9) : G8 m = some (byteCells (headB m ++ ((kf 9).map (fieldB m)).flatten), 0) := by
  obtain ⟨b0, b1, b2, b3, b4, b6, b8, b11, n5, n7, n9, n14, b5, b14, b7, b9, b10, b12, b13, k0, k1, k2, k3⟩ := boundsB m h
  have e0 : ([] : LL) = byteCells [] := rfl
  unfold G8
  rw [g8_eq, s10 m hf, Option.bind_some, hv, if_neg (show ¬ (!true) = true by decide), e0, s21 [] (by simp) h.kind.1 h.kind.2, Option.bind_some, s21 _ (by simp only [List.length_append, List.length_nil]; omega) h.view.1 h.view.2, Option.bind_some, s21 _ (by simp only [List.length_append, List.length_nil]; omega) h.frm.1 h.frm.2, Option.bind_some, s21 _ (by simp only [List.length_append, List.length_nil]; omega) h.to.1 h.to.2, Option.bind_some]
  rw [if_neg (kne (show m.kind ≠ 1 by omega))]
  rw [if_neg (kne (show m.kind ≠ 2 by omega))]
  rw [if_neg (kne (show m.kind ≠ 4 by omega))]
  rw [if_neg (kne (show m.kind ≠ 5 by omega))]
  rw [if_neg (kne (show m.kind ≠ 6 by omega))]
  rw [if_neg (kne (show m.kind ≠ 12 by omega))]
  rw [if_neg (kne (show m.kind ≠ 13 by omega))]
  rw [if_neg (kne (show m.kind ≠ 14 by omega))]
  rw [if_neg (kne (show m.kind ≠ 15 by omega))]
  rw [if_neg (kne (show m.kind ≠ 16 by omega))]
  rw [if_neg (kne (show m.kind ≠ 17 by omega))]
  rw [s21 _ (by simp only [List.length_append, List.length_nil]; omega) h.region.1 h.region.2, Option.bind_some]
  rw [s24' _ (by simp only [List.length_append, List.length_nil]; omega) h.op, Option.bind_some]
  rw [if_neg (kne (show m.kind ≠ 2 by omega))]
  rw [if_neg (kne (show m.kind ≠ 4 by omega))]
  simp only [headB, kf, fieldB, listB, List.map_cons, List.map_nil, List.flatten_cons, List.flatten_nil, List.nil_append, List.append_nil, List.append_assoc]

theorem s8k10 (m : Msg) (hf : m.Fits) (h : m.Good) (hv : validB m = true) (hk : m.kind = 10) : G8 m = some (byteCells (headB m ++ ((kf 10).map (fieldB m)).flatten), 0) := by
  obtain ⟨b0, b1, b2, b3, b4, b6, b8, b11, n5, n7, n9, n14, b5, b14, b7, b9, b10, b12, b13, k0, k1, k2, k3⟩ := boundsB m h
  have e0 : ([] : LL) = byteCells [] := rfl
  unfold G8
  rw [g8_eq, s10 m hf, Option.bind_some, hv, if_neg (show ¬ (!true) = true by decide), e0, s21 [] (by simp) h.kind.1 h.kind.2, Option.bind_some, s21 _ (by simp only [List.length_append, List.length_nil]; omega) h.view.1 h.view.2, Option.bind_some, s21 _ (by simp only [List.length_append, List.length_nil]; omega) h.frm.1 h.frm.2, Option.bind_some, s21 _ (by simp only [List.length_append, List.length_nil]; omega) h.to.1 h.to.2, Option.bind_some]
  rw [if_neg (kne (show m.kind ≠ 1 by omega))]
  rw [if_neg (kne (show m.kind ≠ 2 by omega))]
  rw [if_neg (kne (show m.kind ≠ 4 by omega))]
  rw [if_neg (kne (show m.kind ≠ 5 by omega))]
  rw [if_neg (kne (show m.kind ≠ 6 by omega))]
  rw [if_neg (kne (show m.kind ≠ 12 by omega))]
  rw [if_neg (kne (show m.kind ≠ 13 by omega))]
  rw [if_neg (kne (show m.kind ≠ 14 by omega))]
  rw [if_neg (kne (show m.kind ≠ 15 by omega))]
  rw [if_neg (kne (show m.kind ≠ 16 by omega))]
  rw [if_neg (kne (show m.kind ≠ 17 by omega))]
  rw [s21 _ (by simp only [List.length_append, List.length_nil]; omega) h.region.1 h.region.2, Option.bind_some]
  rw [s24' _ (by simp only [List.length_append, List.length_nil]; omega) h.op, Option.bind_some]
  rw [if_neg (kne (show m.kind ≠ 2 by omega))]
  rw [if_neg (kne (show m.kind ≠ 4 by omega))]
  simp only [headB, kf, fieldB, listB, List.map_cons, List.map_nil, List.flatten_cons, List.flatten_nil, List.nil_append, List.append_nil, List.append_assoc]

theorem s8k11 (m : Msg) (hf : m.Fits) (h : m.Good) (hv : validB m = true) (hk : m.kind = 11) : G8 m = some (byteCells (headB m ++ ((kf 11).map (fieldB m)).flatten), 0) := by
  obtain ⟨b0, b1, b2, b3, b4, b6, b8, b11, n5, n7, n9, n14, b5, b14, b7, b9, b10, b12, b13, k0, k1, k2, k3⟩ := boundsB m h
  have e0 : ([] : LL) = byteCells [] := rfl
  unfold G8
  rw [g8_eq, s10 m hf, Option.bind_some, hv, if_neg (show ¬ (!true) = true by decide), e0, s21 [] (by simp) h.kind.1 h.kind.2, Option.bind_some, s21 _ (by simp only [List.length_append, List.length_nil]; omega) h.view.1 h.view.2, Option.bind_some, s21 _ (by simp only [List.length_append, List.length_nil]; omega) h.frm.1 h.frm.2, Option.bind_some, s21 _ (by simp only [List.length_append, List.length_nil]; omega) h.to.1 h.to.2, Option.bind_some]
  rw [if_neg (kne (show m.kind ≠ 1 by omega))]
  rw [if_neg (kne (show m.kind ≠ 2 by omega))]
  rw [if_neg (kne (show m.kind ≠ 4 by omega))]
  rw [if_neg (kne (show m.kind ≠ 5 by omega))]
  rw [if_neg (kne (show m.kind ≠ 6 by omega))]
  rw [if_neg (kne (show m.kind ≠ 12 by omega))]
  rw [if_neg (kne (show m.kind ≠ 13 by omega))]
  rw [if_neg (kne (show m.kind ≠ 14 by omega))]
  rw [if_neg (kne (show m.kind ≠ 15 by omega))]
  rw [if_neg (kne (show m.kind ≠ 16 by omega))]
  rw [if_neg (kne (show m.kind ≠ 17 by omega))]
  rw [s21 _ (by simp only [List.length_append, List.length_nil]; omega) h.region.1 h.region.2, Option.bind_some]
  rw [s24' _ (by simp only [List.length_append, List.length_nil]; omega) h.op, Option.bind_some]
  rw [if_neg (kne (show m.kind ≠ 2 by omega))]
  rw [if_neg (kne (show m.kind ≠ 4 by omega))]
  simp only [headB, kf, fieldB, listB, List.map_cons, List.map_nil, List.flatten_cons, List.flatten_nil, List.nil_append, List.append_nil, List.append_assoc]

theorem s8k12 (m : Msg) (hf : m.Fits) (h : m.Good) (hv : validB m = true) (hk : m.kind = 12) : G8 m = some (byteCells (headB m ++ ((kf 12).map (fieldB m)).flatten), 0) := by
  obtain ⟨b0, b1, b2, b3, b4, b6, b8, b11, n5, n7, n9, n14, b5, b14, b7, b9, b10, b12, b13, k0, k1, k2, k3⟩ := boundsB m h
  have e0 : ([] : LL) = byteCells [] := rfl
  unfold G8
  rw [g8_eq, s10 m hf, Option.bind_some, hv, if_neg (show ¬ (!true) = true by decide), e0, s21 [] (by simp) h.kind.1 h.kind.2, Option.bind_some, s21 _ (by simp only [List.length_append, List.length_nil]; omega) h.view.1 h.view.2, Option.bind_some, s21 _ (by simp only [List.length_append, List.length_nil]; omega) h.frm.1 h.frm.2, Option.bind_some, s21 _ (by simp only [List.length_append, List.length_nil]; omega) h.to.1 h.to.2, Option.bind_some]
  rw [if_neg (kne (show m.kind ≠ 1 by omega))]
  rw [if_neg (kne (show m.kind ≠ 2 by omega))]
  rw [if_neg (kne (show m.kind ≠ 4 by omega))]
  rw [if_neg (kne (show m.kind ≠ 5 by omega))]
  rw [if_neg (kne (show m.kind ≠ 6 by omega))]
  rw [if_pos (keq hk)]
  rw [s21 _ (by simp only [List.length_append, List.length_nil]; omega) h.round.1 h.round.2, Option.bind_some]
  rw [s26 _ _ (by simp only [List.length_append, List.length_nil]; omega) (by omega) h.cores, Option.bind_some]
  rw [if_neg (kne (show m.kind ≠ 2 by omega))]
  rw [if_neg (kne (show m.kind ≠ 4 by omega))]
  simp only [headB, kf, fieldB, listB, List.map_cons, List.map_nil, List.flatten_cons, List.flatten_nil, List.nil_append, List.append_nil, List.append_assoc]

theorem s8k13 (m : Msg) (hf : m.Fits) (h : m.Good) (hv : validB m = true) (hk : m.kind = 13) : G8 m = some (byteCells (headB m ++ ((kf 13).map (fieldB m)).flatten), 0) := by
  obtain ⟨b0, b1, b2, b3, b4, b6, b8, b11, n5, n7, n9, n14, b5, b14, b7, b9, b10, b12, b13, k0, k1, k2, k3⟩ := boundsB m h
  have e0 : ([] : LL) = byteCells [] := rfl
  unfold G8
  rw [g8_eq, s10 m hf, Option.bind_some, hv, if_neg (show ¬ (!true) = true by decide), e0, s21 [] (by simp) h.kind.1 h.kind.2, Option.bind_some, s21 _ (by simp only [List.length_append, List.length_nil]; omega) h.view.1 h.view.2, Option.bind_some, s21 _ (by simp only [List.length_append, List.length_nil]; omega) h.frm.1 h.frm.2, Option.bind_some, s21 _ (by simp only [List.length_append, List.length_nil]; omega) h.to.1 h.to.2, Option.bind_some]
  rw [if_neg (kne (show m.kind ≠ 1 by omega))]
  rw [if_neg (kne (show m.kind ≠ 2 by omega))]
  rw [if_neg (kne (show m.kind ≠ 4 by omega))]
  rw [if_neg (kne (show m.kind ≠ 5 by omega))]
  rw [if_neg (kne (show m.kind ≠ 6 by omega))]
  rw [if_neg (kne (show m.kind ≠ 12 by omega))]
  rw [if_pos (keq hk)]
  rw [s21 _ (by simp only [List.length_append, List.length_nil]; omega) h.round.1 h.round.2, Option.bind_some]
  rw [s27 _ (by simp only [List.length_append, List.length_nil]; omega) _ h.report, Option.bind_some]
  rw [if_neg (kne (show m.kind ≠ 2 by omega))]
  rw [if_neg (kne (show m.kind ≠ 4 by omega))]
  simp only [headB, kf, fieldB, listB, List.map_cons, List.map_nil, List.flatten_cons, List.flatten_nil, List.nil_append, List.append_nil, List.append_assoc]

theorem s8k14 (m : Msg) (hf : m.Fits) (h : m.Good) (hv : validB m = true) (hk : m.kind = 14) : G8 m = some (byteCells (headB m ++ ((kf 14).map (fieldB m)).flatten), 0) := by
  obtain ⟨b0, b1, b2, b3, b4, b6, b8, b11, n5, n7, n9, n14, b5, b14, b7, b9, b10, b12, b13, k0, k1, k2, k3⟩ := boundsB m h
  have e0 : ([] : LL) = byteCells [] := rfl
  unfold G8
  rw [g8_eq, s10 m hf, Option.bind_some, hv, if_neg (show ¬ (!true) = true by decide), e0, s21 [] (by simp) h.kind.1 h.kind.2, Option.bind_some, s21 _ (by simp only [List.length_append, List.length_nil]; omega) h.view.1 h.view.2, Option.bind_some, s21 _ (by simp only [List.length_append, List.length_nil]; omega) h.frm.1 h.frm.2, Option.bind_some, s21 _ (by simp only [List.length_append, List.length_nil]; omega) h.to.1 h.to.2, Option.bind_some]
  rw [if_neg (kne (show m.kind ≠ 1 by omega))]
  rw [if_neg (kne (show m.kind ≠ 2 by omega))]
  rw [if_neg (kne (show m.kind ≠ 4 by omega))]
  rw [if_neg (kne (show m.kind ≠ 5 by omega))]
  rw [if_neg (kne (show m.kind ≠ 6 by omega))]
  rw [if_neg (kne (show m.kind ≠ 12 by omega))]
  rw [if_neg (kne (show m.kind ≠ 13 by omega))]
  rw [if_pos (keq hk)]
  rw [s21 _ (by simp only [List.length_append, List.length_nil]; omega) h.round.1 h.round.2, Option.bind_some]
  rw [s21 _ (by simp only [List.length_append, List.length_nil]; omega) h.base.1 h.base.2, Option.bind_some]
  rw [s26 _ _ (by simp only [List.length_append, List.length_nil]; omega) (by omega) h.cores, Option.bind_some]
  rw [s29 _ (by simp only [List.length_append, List.length_nil]; omega) _ h.next, Option.bind_some]
  rw [s28 _ (by simp only [List.length_append, List.length_nil]; omega) _ h.state, Option.bind_some]
  rw [if_neg (kne (show m.kind ≠ 2 by omega))]
  rw [if_neg (kne (show m.kind ≠ 4 by omega))]
  simp only [headB, kf, fieldB, listB, List.map_cons, List.map_nil, List.flatten_cons, List.flatten_nil, List.nil_append, List.append_nil, List.append_assoc]

theorem s8k15 (m : Msg) (hf : m.Fits) (h : m.Good) (hv : validB m = true) (hk : m.kind = 15) : G8 m = some (byteCells (headB m ++ ((kf 15).map (fieldB m)).flatten), 0) := by
  obtain ⟨b0, b1, b2, b3, b4, b6, b8, b11, n5, n7, n9, n14, b5, b14, b7, b9, b10, b12, b13, k0, k1, k2, k3⟩ := boundsB m h
  have e0 : ([] : LL) = byteCells [] := rfl
  unfold G8
  rw [g8_eq, s10 m hf, Option.bind_some, hv, if_neg (show ¬ (!true) = true by decide), e0, s21 [] (by simp) h.kind.1 h.kind.2, Option.bind_some, s21 _ (by simp only [List.length_append, List.length_nil]; omega) h.view.1 h.view.2, Option.bind_some, s21 _ (by simp only [List.length_append, List.length_nil]; omega) h.frm.1 h.frm.2, Option.bind_some, s21 _ (by simp only [List.length_append, List.length_nil]; omega) h.to.1 h.to.2, Option.bind_some]
  rw [if_neg (kne (show m.kind ≠ 1 by omega))]
  rw [if_neg (kne (show m.kind ≠ 2 by omega))]
  rw [if_neg (kne (show m.kind ≠ 4 by omega))]
  rw [if_neg (kne (show m.kind ≠ 5 by omega))]
  rw [if_neg (kne (show m.kind ≠ 6 by omega))]
  rw [if_neg (kne (show m.kind ≠ 12 by omega))]
  rw [if_neg (kne (show m.kind ≠ 13 by omega))]
  rw [if_neg (kne (show m.kind ≠ 14 by omega))]
  rw [if_pos (keq hk)]
  rw [s21 _ (by simp only [List.length_append, List.length_nil]; omega) h.round.1 h.round.2, Option.bind_some]
  rw [if_neg (kne (show m.kind ≠ 2 by omega))]
  rw [if_neg (kne (show m.kind ≠ 4 by omega))]
  simp only [headB, kf, fieldB, listB, List.map_cons, List.map_nil, List.flatten_cons, List.flatten_nil, List.nil_append, List.append_nil, List.append_assoc]

theorem s8k16 (m : Msg) (hf : m.Fits) (h : m.Good) (hv : validB m = true) (hk : m.kind = 16) : G8 m = some (byteCells (headB m ++ ((kf 16).map (fieldB m)).flatten), 0) := by
  obtain ⟨b0, b1, b2, b3, b4, b6, b8, b11, n5, n7, n9, n14, b5, b14, b7, b9, b10, b12, b13, k0, k1, k2, k3⟩ := boundsB m h
  have e0 : ([] : LL) = byteCells [] := rfl
  unfold G8
  rw [g8_eq, s10 m hf, Option.bind_some, hv, if_neg (show ¬ (!true) = true by decide), e0, s21 [] (by simp) h.kind.1 h.kind.2, Option.bind_some, s21 _ (by simp only [List.length_append, List.length_nil]; omega) h.view.1 h.view.2, Option.bind_some, s21 _ (by simp only [List.length_append, List.length_nil]; omega) h.frm.1 h.frm.2, Option.bind_some, s21 _ (by simp only [List.length_append, List.length_nil]; omega) h.to.1 h.to.2, Option.bind_some]
  rw [if_neg (kne (show m.kind ≠ 1 by omega))]
  rw [if_neg (kne (show m.kind ≠ 2 by omega))]
  rw [if_neg (kne (show m.kind ≠ 4 by omega))]
  rw [if_neg (kne (show m.kind ≠ 5 by omega))]
  rw [if_neg (kne (show m.kind ≠ 6 by omega))]
  rw [if_neg (kne (show m.kind ≠ 12 by omega))]
  rw [if_neg (kne (show m.kind ≠ 13 by omega))]
  rw [if_neg (kne (show m.kind ≠ 14 by omega))]
  rw [if_neg (kne (show m.kind ≠ 15 by omega))]
  rw [if_pos (keq hk)]
  rw [s21 _ (by simp only [List.length_append, List.length_nil]; omega) h.round.1 h.round.2, Option.bind_some]
  rw [if_neg (kne (show m.kind ≠ 2 by omega))]
  rw [if_neg (kne (show m.kind ≠ 4 by omega))]
  simp only [headB, kf, fieldB, listB, List.map_cons, List.map_nil, List.flatten_cons, List.flatten_nil, List.nil_append, List.append_nil, List.append_assoc]

theorem s8k17 (m : Msg) (hf : m.Fits) (h : m.Good) (hv : validB m = true) (hk : m.kind = 17) : G8 m = some (byteCells (headB m ++ ((kf 17).map (fieldB m)).flatten), 0) := by
  obtain ⟨b0, b1, b2, b3, b4, b6, b8, b11, n5, n7, n9, n14, b5, b14, b7, b9, b10, b12, b13, k0, k1, k2, k3⟩ := boundsB m h
  have e0 : ([] : LL) = byteCells [] := rfl
  unfold G8
  rw [g8_eq, s10 m hf, Option.bind_some, hv, if_neg (show ¬ (!true) = true by decide), e0, s21 [] (by simp) h.kind.1 h.kind.2, Option.bind_some, s21 _ (by simp only [List.length_append, List.length_nil]; omega) h.view.1 h.view.2, Option.bind_some, s21 _ (by simp only [List.length_append, List.length_nil]; omega) h.frm.1 h.frm.2, Option.bind_some, s21 _ (by simp only [List.length_append, List.length_nil]; omega) h.to.1 h.to.2, Option.bind_some]
  rw [if_neg (kne (show m.kind ≠ 1 by omega))]
  rw [if_neg (kne (show m.kind ≠ 2 by omega))]
  rw [if_neg (kne (show m.kind ≠ 4 by omega))]
  rw [if_neg (kne (show m.kind ≠ 5 by omega))]
  rw [if_neg (kne (show m.kind ≠ 6 by omega))]
  rw [if_neg (kne (show m.kind ≠ 12 by omega))]
  rw [if_neg (kne (show m.kind ≠ 13 by omega))]
  rw [if_neg (kne (show m.kind ≠ 14 by omega))]
  rw [if_neg (kne (show m.kind ≠ 15 by omega))]
  rw [if_neg (kne (show m.kind ≠ 16 by omega))]
  rw [if_pos (keq hk)]
  rw [s26 _ _ (by simp only [List.length_append, List.length_nil]; omega) (by omega) h.cores, Option.bind_some]
  rw [List.length_map, s21 _ (by simp only [List.length_append, List.length_nil]; omega) (by omega) (by omega), Option.bind_some]
  rw [l8m m hk h _ (by simp only [List.length_append, List.length_nil]; omega)]
  simp only [headB, kf, fieldB, listB, List.map_cons, List.map_nil, List.flatten_cons, List.flatten_nil, List.nil_append, List.append_nil, List.append_assoc]

theorem s8 (m : Msg) (hf : m.Fits) (h : validB m = true → m.Good) : g8 m.kind m.view m.frm m.to m.round m.region m.slot m.op.core m.op.op m.op.part m.err m.settled m.req.id.core m.req.id.op m.req.id.part m.req.call.kind m.req.call.slot m.req.call.dest m.req.call.core m.req.call.mask m.req.call.object m.req.call.bits m.req.call.level m.req.call.offset m.req.call.count m.req.call.index m.req.call.addr m.req.region m.req.width m.req.src.id.core m.req.src.id.op m.req.src.id.part (idCells m.req.src.path) m.req.src.cap.kind m.req.src.cap.base m.req.src.cap.bits m.req.src.cap.rights m.req.src.cap.width m.req.src.cap.level m.req.src.cap.device (idCells m.ids) (m.nodes.map nodec) (intCells m.cores) (m.moves.map movec) m.base m.next.number (intCells m.next.members) (intCells m.next.owners) (m.state.slots.map slotc) (m.state.pending.map reqc) (m.state.marks.map markc) (m.state.answers.map ansc) (m.state.entries.map entryc) (idCells m.state.commits) m.report.core m.report.view.number (intCells m.report.view.members) (intCells m.report.view.owners) (m.report.state.slots.map slotc) (m.report.state.pending.map reqc) (m.report.state.marks.map markc) (m.report.state.answers.map ansc) (m.report.state.entries.map entryc) (idCells m.report.state.commits) m.report.ready m.report.next.number (intCells m.report.next.members) (intCells m.report.next.owners) (m.report.proposal.slots.map slotc) (m.report.proposal.pending.map reqc) (m.report.proposal.marks.map markc) (m.report.proposal.answers.map ansc) (m.report.proposal.entries.map entryc) (idCells m.report.proposal.commits) = some (if validB m = true then (byteCells (msgB m), 0) else (([] : List (List AV)), 1)) := by
  cases hv : validB m with
  | false => rw [g8_eq, s10 m hf, Option.bind_some, hv]; rfl
  | true =>
    have hg := h hv
    rw [if_pos rfl]
    have hk : 1 ≤ m.kind ∧ m.kind ≤ 17 := by
      unfold validB headOk kindOk at hv
      simp only [Bool.and_eq_true, decide_eq_true_eq] at hv
      exact hv.1.1.1.1
    unfold msgB
    rcases (show m.kind = 1 ∨ m.kind = 2 ∨ m.kind = 3 ∨ m.kind = 4 ∨ m.kind = 5 ∨ m.kind = 6 ∨ m.kind = 7 ∨ m.kind = 8 ∨ m.kind = 9 ∨ m.kind = 10 ∨ m.kind = 11 ∨ m.kind = 12 ∨ m.kind = 13 ∨ m.kind = 14 ∨ m.kind = 15 ∨ m.kind = 16 ∨ m.kind = 17 by omega) with e | e | e | e | e | e | e | e | e | e | e | e | e | e | e | e | e
    · refine (s8k1 m hf hg hv e).trans ?_; rw [e]; rfl
    · refine (s8k2 m hf hg hv e).trans ?_; rw [e]; rfl
    · refine (s8k3 m hf hg hv e).trans ?_; rw [e]; rfl
    · refine (s8k4 m hf hg hv e).trans ?_; rw [e]; rfl
    · refine (s8k5 m hf hg hv e).trans ?_; rw [e]; rfl
    · refine (s8k6 m hf hg hv e).trans ?_; rw [e]; rfl
    · refine (s8k7 m hf hg hv e).trans ?_; rw [e]; rfl
    · refine (s8k8 m hf hg hv e).trans ?_; rw [e]; rfl
    · refine (s8k9 m hf hg hv e).trans ?_; rw [e]; rfl
    · refine (s8k10 m hf hg hv e).trans ?_; rw [e]; rfl
    · refine (s8k11 m hf hg hv e).trans ?_; rw [e]; rfl
    · refine (s8k12 m hf hg hv e).trans ?_; rw [e]; rfl
    · refine (s8k13 m hf hg hv e).trans ?_; rw [e]; rfl
    · refine (s8k14 m hf hg hv e).trans ?_; rw [e]; rfl
    · refine (s8k15 m hf hg hv e).trans ?_; rw [e]; rfl
    · refine (s8k16 m hf hg hv e).trans ?_; rw [e]; rfl
    · refine (s8k17 m hf hg hv e).trans ?_; rw [e]; rfl

end Go.Proofs.YtceopohbfkamiaaGreat
end

section
namespace Go.Proofs.YtceopohbfkamiaaGreat
open Go Go.AM
set_option linter.unusedSimpArgs false
set_option linter.unusedVariables false
set_option maxRecDepth 100000

theorem wf64 {z : Int} (h : (Lit.int .i64 z).wf = true) : Rng z := by
  have h1 : IntKind.i64.min = -9223372036854775808 := by decide
  have h2 : IntKind.i64.max = 9223372036854775807 := by decide
  have h3 : (2 : Int) ^ 63 = 9223372036854775808 := by decide
  simp [Lit.wf, h1, h2] at h
  unfold Rng
  omega

theorem sz44 {n b : Nat} (h : n * b ≤ reachBytes) (hb : 8 ≤ b) : n < 2 ^ 44 := by
  have h1 := reachBytes_lt
  have h2 : n * 8 ≤ n * b := Nat.mul_le_mul_left n hb
  omega

theorem tz_int {d : Nat} {cs : List AV} (h : TyZ Tryz.prog (d + 1) 3 cs) : ∃ z, cs = [I z] ∧ Rng z := by
  simp only [TyZ, Tryz.underlying3] at h
  obtain ⟨z, h, hw⟩ := h
  exact ⟨z, h, wf64 hw⟩

theorem tz_err {d : Nat} {cs : List AV} (h : TyZ Tryz.prog (d + 1) 24 cs) : ∃ z, cs = [I z] ∧ Rng z := by
  simp only [TyZ, Tryz.underlying24] at h
  obtain ⟨z, h, hw⟩ := h
  exact ⟨z, h, wf64 hw⟩

theorem tz_bool {d : Nat} {cs : List AV} (h : TyZ Tryz.prog (d + 1) 4 cs) : ∃ z, cs = [B z] := by
  simp only [TyZ, Tryz.underlying4] at h
  exact h

theorem tz_id {d : Nat} {cs : List AV} (h : TyZ Tryz.prog (d + 2) 23 cs) : ∃ i : Id, cs = idc i := by
  rw [TyZ] at h
  simp only [Tryz.underlying23] at h
  obtain ⟨ps, rfl, hl, hp⟩ := h
  obtain ⟨p0, p1, p2, rfl⟩ : ∃ p0 p1 p2, ps = [p0, p1, p2] := by
    match ps, hl with
    | [p0, p1, p2], _ => exact ⟨p0, p1, p2, rfl⟩
  obtain ⟨a, rfl, ha⟩ := tz_int (hp 0 _ _ rfl rfl)
  obtain ⟨b, rfl, hb⟩ := tz_int (hp 1 _ _ rfl rfl)
  obtain ⟨c, rfl, hc⟩ := tz_int (hp 2 _ _ rfl rfl)
  exact ⟨⟨a, b, c⟩, rfl⟩

theorem tz_cap {d : Nat} {cs : List AV} (h : TyZ Tryz.prog (d + 2) 29 cs) : ∃ k b s r w l dv, cs = [I k, I b, I s, I r, I w, I l, B dv] := by
  rw [TyZ] at h
  simp only [Tryz.underlying29] at h
  obtain ⟨ps, rfl, hl, hp⟩ := h
  obtain ⟨p0, p1, p2, p3, p4, p5, p6, rfl⟩ : ∃ p0 p1 p2 p3 p4 p5 p6, ps = [p0, p1, p2, p3, p4, p5, p6] := by
    match ps, hl with
    | [p0, p1, p2, p3, p4, p5, p6], _ => exact ⟨p0, p1, p2, p3, p4, p5, p6, rfl⟩
  obtain ⟨k, rfl, _⟩ := tz_int (hp 0 _ _ rfl rfl)
  obtain ⟨b, rfl, _⟩ := tz_int (hp 1 _ _ rfl rfl)
  obtain ⟨s, rfl, _⟩ := tz_int (hp 2 _ _ rfl rfl)
  obtain ⟨r, rfl, _⟩ := tz_int (hp 3 _ _ rfl rfl)
  obtain ⟨w, rfl, _⟩ := tz_int (hp 4 _ _ rfl rfl)
  obtain ⟨l, rfl, _⟩ := tz_int (hp 5 _ _ rfl rfl)
  obtain ⟨dv, rfl⟩ := tz_bool (hp 6 _ _ rfl rfl)
  exact ⟨k, b, s, r, w, l, dv, rfl⟩

theorem tz_call {d : Nat} {cs : List AV} (h : TyZ Tryz.prog (d + 2) 26 cs) : ∃ c : Call, cs = callc c ∧ ∀ z ∈ callL c, Rng z := by
  rw [TyZ] at h
  simp only [Tryz.underlying26] at h
  obtain ⟨ps, rfl, hl, hp⟩ := h
  obtain ⟨p0, p1, p2, p3, p4, p5, p6, p7, p8, p9, p10, p11, rfl⟩ : ∃ p0 p1 p2 p3 p4 p5 p6 p7 p8 p9 p10 p11, ps = [p0, p1, p2, p3, p4, p5, p6, p7, p8, p9, p10, p11] := by
    match ps, hl with
    | [p0, p1, p2, p3, p4, p5, p6, p7, p8, p9, p10, p11], _ => exact ⟨p0, p1, p2, p3, p4, p5, p6, p7, p8, p9, p10, p11, rfl⟩
  obtain ⟨z0, rfl, h0⟩ := tz_int (hp 0 _ _ rfl rfl)
  obtain ⟨z1, rfl, h1⟩ := tz_int (hp 1 _ _ rfl rfl)
  obtain ⟨z2, rfl, h2⟩ := tz_int (hp 2 _ _ rfl rfl)
  obtain ⟨z3, rfl, h3⟩ := tz_int (hp 3 _ _ rfl rfl)
  obtain ⟨z4, rfl, h4⟩ := tz_int (hp 4 _ _ rfl rfl)
  obtain ⟨z5, rfl, h5⟩ := tz_int (hp 5 _ _ rfl rfl)
  obtain ⟨z6, rfl, h6⟩ := tz_int (hp 6 _ _ rfl rfl)
  obtain ⟨z7, rfl, h7⟩ := tz_int (hp 7 _ _ rfl rfl)
  obtain ⟨z8, rfl, h8⟩ := tz_int (hp 8 _ _ rfl rfl)
  obtain ⟨z9, rfl, h9⟩ := tz_int (hp 9 _ _ rfl rfl)
  obtain ⟨z10, rfl, h10⟩ := tz_int (hp 10 _ _ rfl rfl)
  obtain ⟨z11, rfl, h11⟩ := tz_int (hp 11 _ _ rfl rfl)
  exact ⟨⟨z0, z1, z2, z3, z4, z5, z6, z7, z8, z9, z10, z11⟩, rfl, fun z hz => by
    simp only [callL, List.mem_cons, List.not_mem_nil, or_false] at hz
    rcases hz with rfl | rfl | rfl | rfl | rfl | rfl | rfl | rfl | rfl | rfl | rfl | rfl <;> assumption⟩

theorem cz_ids : Tryz.prog.cellsOf 23 = 3 := by kernel_rfl
theorem bz_ids : 8 ≤ Tryz.prog.bytesOf 23 := by
  have : decide (8 ≤ Tryz.prog.bytesOf 23) = true := by kernel_rfl
  exact of_decide_eq_true this
theorem tz_ids {d : Nat} {cs : List AV} (h : TyZ Tryz.prog (d + 3) 27 cs) : ∃ l : List Id, cs = [.slice false 3 (idCells l)] ∧ l.length < 2 ^ 44 ∧ ∀ x ∈ l, True := by
  rw [TyZ] at h
  simp only [Tryz.underlying27, cz_ids] at h
  obtain ⟨xs, h1, h0, h2, h3⟩ := h
  obtain ⟨l, rfl, h5⟩ := list_lift (f := idc) (p := fun x => True) xs fun y hy => by
    obtain ⟨i, hi⟩ := tz_id (h3 y hy)
    exact ⟨i, hi, trivial⟩
  exact ⟨l, h1, sz44 (by simpa using h0) bz_ids, h5⟩

theorem cz_ints : Tryz.prog.cellsOf 3 = 1 := by kernel_rfl
theorem bz_ints : 8 ≤ Tryz.prog.bytesOf 3 := by
  have : decide (8 ≤ Tryz.prog.bytesOf 3) = true := by kernel_rfl
  exact of_decide_eq_true this
theorem tz_ints {d : Nat} {cs : List AV} (h : TyZ Tryz.prog (d + 2) 35 cs) : ∃ l : List Int, cs = [.slice false 1 (intCells l)] ∧ l.length < 2 ^ 44 ∧ ∀ x ∈ l, True := by
  rw [TyZ] at h
  simp only [Tryz.underlying35, cz_ints] at h
  obtain ⟨xs, h1, h0, h2, h3⟩ := h
  obtain ⟨l, rfl, h5⟩ := list_lift (f := i64c) (p := fun x => True) xs fun y hy => by
    obtain ⟨i, hi, _⟩ := tz_int (h3 y hy)
    exact ⟨i, hi, trivial⟩
  exact ⟨l, h1, sz44 (by simpa using h0) bz_ints, h5⟩

theorem tz_node {d : Nat} {cs : List AV} (h : TyZ Tryz.prog (d + 4) 31 cs) : ∃ n : Node, cs = nodec n ∧ n.path.length < 2 ^ 44 := by
  rw [TyZ] at h
  simp only [Tryz.underlying31] at h
  obtain ⟨ps, rfl, hl, hp⟩ := h
  obtain ⟨p0, p1, p2, rfl⟩ : ∃ p0 p1 p2, ps = [p0, p1, p2] := by
    match ps, hl with
    | [p0, p1, p2], _ => exact ⟨p0, p1, p2, rfl⟩
  obtain ⟨i, rfl⟩ := tz_id (hp 0 _ _ rfl rfl)
  obtain ⟨l, rfl, hl2, _⟩ := tz_ids (hp 1 _ _ rfl rfl)
  obtain ⟨k, b, s, r, w, lv, dv, rfl⟩ := tz_cap (hp 2 _ _ rfl rfl)
  exact ⟨⟨i, l, ⟨k, b, s, r, w, lv, dv⟩⟩, rfl, hl2⟩

theorem tz_req {d : Nat} {cs : List AV} (h : TyZ Tryz.prog (d + 5) 33 cs) : ∃ r : Req, cs = reqc r ∧ r.src.path.length < 2 ^ 44 ∧ ∀ z ∈ callL r.call, Rng z := by
  rw [TyZ] at h
  simp only [Tryz.underlying33] at h
  obtain ⟨ps, rfl, hl, hp⟩ := h
  obtain ⟨p0, p1, p2, p3, p4, rfl⟩ : ∃ p0 p1 p2 p3 p4, ps = [p0, p1, p2, p3, p4] := by
    match ps, hl with
    | [p0, p1, p2, p3, p4], _ => exact ⟨p0, p1, p2, p3, p4, rfl⟩
  obtain ⟨i, rfl⟩ := tz_id (hp 0 _ _ rfl rfl)
  obtain ⟨c, rfl, hc⟩ := tz_call (hp 1 _ _ rfl rfl)
  obtain ⟨a, rfl, _⟩ := tz_int (hp 2 _ _ rfl rfl)
  obtain ⟨b, rfl, _⟩ := tz_int (hp 3 _ _ rfl rfl)
  obtain ⟨n, rfl, hn⟩ := tz_node (hp 4 _ _ rfl rfl)
  exact ⟨⟨i, c, a, b, n⟩, rfl, hn, hc⟩

theorem tz_slot {d : Nat} {cs : List AV} (h : TyZ Tryz.prog (d + 5) 95 cs) : ∃ s : Slot, cs = slotc s ∧ s.node.path.length < 2 ^ 44 := by
  rw [TyZ] at h
  simp only [Tryz.underlying95] at h
  obtain ⟨ps, rfl, hl, hp⟩ := h
  obtain ⟨p0, p1, p2, rfl⟩ : ∃ p0 p1 p2, ps = [p0, p1, p2] := by
    match ps, hl with
    | [p0, p1, p2], _ => exact ⟨p0, p1, p2, rfl⟩
  obtain ⟨n, rfl, hn⟩ := tz_node (hp 0 _ _ rfl rfl)
  obtain ⟨a, rfl, _⟩ := tz_int (hp 1 _ _ rfl rfl)
  obtain ⟨i, rfl⟩ := tz_id (hp 2 _ _ rfl rfl)
  exact ⟨⟨n, a, i⟩, rfl, hn⟩

theorem tz_entry {d : Nat} {cs : List AV} (h : TyZ Tryz.prog (d + 5) 97 cs) : ∃ s : Entry, cs = entryc s ∧ s.node.path.length < 2 ^ 44 := by
  rw [TyZ] at h
  simp only [Tryz.underlying97] at h
  obtain ⟨ps, rfl, hl, hp⟩ := h
  obtain ⟨p0, p1, p2, rfl⟩ : ∃ p0 p1 p2, ps = [p0, p1, p2] := by
    match ps, hl with
    | [p0, p1, p2], _ => exact ⟨p0, p1, p2, rfl⟩
  obtain ⟨a, rfl, _⟩ := tz_int (hp 0 _ _ rfl rfl)
  obtain ⟨b, rfl, _⟩ := tz_int (hp 1 _ _ rfl rfl)
  obtain ⟨n, rfl, hn⟩ := tz_node (hp 2 _ _ rfl rfl)
  exact ⟨⟨a, b, n⟩, rfl, hn⟩

theorem tz_mark {d : Nat} {cs : List AV} (h : TyZ Tryz.prog (d + 5) 107 cs) : ∃ m : Mark, cs = markc m := by
  rw [TyZ] at h
  simp only [Tryz.underlying107] at h
  obtain ⟨ps, rfl, hl, hp⟩ := h
  obtain ⟨p0, p1, rfl⟩ : ∃ p0 p1, ps = [p0, p1] := by
    match ps, hl with
    | [p0, p1], _ => exact ⟨p0, p1, rfl⟩
  obtain ⟨a, rfl, _⟩ := tz_int (hp 0 _ _ rfl rfl)
  obtain ⟨i, rfl⟩ := tz_id (hp 1 _ _ rfl rfl)
  exact ⟨⟨a, i⟩, rfl⟩

theorem tz_ans {d : Nat} {cs : List AV} (h : TyZ Tryz.prog (d + 5) 109 cs) : ∃ m : Ans, cs = ansc m := by
  rw [TyZ] at h
  simp only [Tryz.underlying109] at h
  obtain ⟨ps, rfl, hl, hp⟩ := h
  obtain ⟨p0, p1, rfl⟩ : ∃ p0 p1, ps = [p0, p1] := by
    match ps, hl with
    | [p0, p1], _ => exact ⟨p0, p1, rfl⟩
  obtain ⟨a, rfl, _⟩ := tz_int (hp 0 _ _ rfl rfl)
  obtain ⟨b, rfl, _⟩ := tz_err (hp 1 _ _ rfl rfl)
  exact ⟨⟨a, b⟩, rfl⟩

theorem tz_move {d : Nat} {cs : List AV} (h : TyZ Tryz.prog (d + 5) 80 cs) : ∃ m : Move, cs = movec m := by
  rw [TyZ] at h
  simp only [Tryz.underlying80] at h
  obtain ⟨ps, rfl, hl, hp⟩ := h
  obtain ⟨p0, p1, rfl⟩ : ∃ p0 p1, ps = [p0, p1] := by
    match ps, hl with
    | [p0, p1], _ => exact ⟨p0, p1, rfl⟩
  obtain ⟨a, rfl, _⟩ := tz_int (hp 0 _ _ rfl rfl)
  obtain ⟨b, rfl, _⟩ := tz_int (hp 1 _ _ rfl rfl)
  exact ⟨⟨a, b⟩, rfl⟩

theorem cz_nodes : Tryz.prog.cellsOf 31 = 11 := by kernel_rfl
theorem bz_nodes : 8 ≤ Tryz.prog.bytesOf 31 := by
  have : decide (8 ≤ Tryz.prog.bytesOf 31) = true := by kernel_rfl
  exact of_decide_eq_true this
theorem tz_nodes {d : Nat} {cs : List AV} (h : TyZ Tryz.prog (d + 5) 34 cs) : ∃ l : List Node, cs = [.slice false 11 (l.map nodec)] ∧ l.length < 2 ^ 44 ∧ ∀ x ∈ l, x.path.length < 2 ^ 44 := by
  rw [TyZ] at h
  simp only [Tryz.underlying34, cz_nodes] at h
  obtain ⟨xs, h1, h0, h2, h3⟩ := h
  obtain ⟨l, rfl, h5⟩ := list_lift (f := nodec) (p := fun x => x.path.length < 2 ^ 44) xs fun y hy => by
    obtain ⟨i, hi, hj⟩ := tz_node (h3 y hy)
    exact ⟨i, hi, hj⟩
  exact ⟨l, h1, sz44 (by simpa using h0) bz_nodes, h5⟩

theorem cz_moves : Tryz.prog.cellsOf 80 = 2 := by kernel_rfl
theorem bz_moves : 8 ≤ Tryz.prog.bytesOf 80 := by
  have : decide (8 ≤ Tryz.prog.bytesOf 80) = true := by kernel_rfl
  exact of_decide_eq_true this
theorem tz_moves {d : Nat} {cs : List AV} (h : TyZ Tryz.prog (d + 6) 36 cs) : ∃ l : List Move, cs = [.slice false 2 (l.map movec)] ∧ l.length < 2 ^ 44 ∧ ∀ x ∈ l, True := by
  rw [TyZ] at h
  simp only [Tryz.underlying36, cz_moves] at h
  obtain ⟨xs, h1, h0, h2, h3⟩ := h
  obtain ⟨l, rfl, h5⟩ := list_lift (f := movec) (p := fun x => True) xs fun y hy => by
    obtain ⟨i, hi⟩ := tz_move (h3 y hy)
    exact ⟨i, hi, trivial⟩
  exact ⟨l, h1, sz44 (by simpa using h0) bz_moves, h5⟩

theorem cz_slots : Tryz.prog.cellsOf 95 = 15 := by kernel_rfl
theorem bz_slots : 8 ≤ Tryz.prog.bytesOf 95 := by
  have : decide (8 ≤ Tryz.prog.bytesOf 95) = true := by kernel_rfl
  exact of_decide_eq_true this
theorem tz_slots {d : Nat} {cs : List AV} (h : TyZ Tryz.prog (d + 6) 39 cs) : ∃ l : List Slot, cs = [.slice false 15 (l.map slotc)] ∧ l.length < 2 ^ 44 ∧ ∀ x ∈ l, x.node.path.length < 2 ^ 44 := by
  rw [TyZ] at h
  simp only [Tryz.underlying39, cz_slots] at h
  obtain ⟨xs, h1, h0, h2, h3⟩ := h
  obtain ⟨l, rfl, h5⟩ := list_lift (f := slotc) (p := fun x => x.node.path.length < 2 ^ 44) xs fun y hy => by
    obtain ⟨i, hi, hj⟩ := tz_slot (h3 y hy)
    exact ⟨i, hi, hj⟩
  exact ⟨l, h1, sz44 (by simpa using h0) bz_slots, h5⟩

theorem cz_reqs : Tryz.prog.cellsOf 33 = 28 := by kernel_rfl
theorem bz_reqs : 8 ≤ Tryz.prog.bytesOf 33 := by
  have : decide (8 ≤ Tryz.prog.bytesOf 33) = true := by kernel_rfl
  exact of_decide_eq_true this
theorem tz_reqs {d : Nat} {cs : List AV} (h : TyZ Tryz.prog (d + 6) 40 cs) : ∃ l : List Req, cs = [.slice false 28 (l.map reqc)] ∧ l.length < 2 ^ 44 ∧ ∀ x ∈ l, x.src.path.length < 2 ^ 44 ∧ ∀ z ∈ callL x.call, Rng z := by
  rw [TyZ] at h
  simp only [Tryz.underlying40, cz_reqs] at h
  obtain ⟨xs, h1, h0, h2, h3⟩ := h
  obtain ⟨l, rfl, h5⟩ := list_lift (f := reqc) (p := fun x => x.src.path.length < 2 ^ 44 ∧ ∀ z ∈ callL x.call, Rng z) xs fun y hy => by
    obtain ⟨i, hi, hj⟩ := tz_req (h3 y hy)
    exact ⟨i, hi, hj⟩
  exact ⟨l, h1, sz44 (by simpa using h0) bz_reqs, h5⟩

theorem cz_marks : Tryz.prog.cellsOf 107 = 4 := by kernel_rfl
theorem bz_marks : 8 ≤ Tryz.prog.bytesOf 107 := by
  have : decide (8 ≤ Tryz.prog.bytesOf 107) = true := by kernel_rfl
  exact of_decide_eq_true this
theorem tz_marks {d : Nat} {cs : List AV} (h : TyZ Tryz.prog (d + 6) 41 cs) : ∃ l : List Mark, cs = [.slice false 4 (l.map markc)] ∧ l.length < 2 ^ 44 ∧ ∀ x ∈ l, True := by
  rw [TyZ] at h
  simp only [Tryz.underlying41, cz_marks] at h
  obtain ⟨xs, h1, h0, h2, h3⟩ := h
  obtain ⟨l, rfl, h5⟩ := list_lift (f := markc) (p := fun x => True) xs fun y hy => by
    obtain ⟨i, hi⟩ := tz_mark (h3 y hy)
    exact ⟨i, hi, trivial⟩
  exact ⟨l, h1, sz44 (by simpa using h0) bz_marks, h5⟩

theorem cz_anss : Tryz.prog.cellsOf 109 = 2 := by kernel_rfl
theorem bz_anss : 8 ≤ Tryz.prog.bytesOf 109 := by
  have : decide (8 ≤ Tryz.prog.bytesOf 109) = true := by kernel_rfl
  exact of_decide_eq_true this
theorem tz_anss {d : Nat} {cs : List AV} (h : TyZ Tryz.prog (d + 6) 42 cs) : ∃ l : List Ans, cs = [.slice false 2 (l.map ansc)] ∧ l.length < 2 ^ 44 ∧ ∀ x ∈ l, True := by
  rw [TyZ] at h
  simp only [Tryz.underlying42, cz_anss] at h
  obtain ⟨xs, h1, h0, h2, h3⟩ := h
  obtain ⟨l, rfl, h5⟩ := list_lift (f := ansc) (p := fun x => True) xs fun y hy => by
    obtain ⟨i, hi⟩ := tz_ans (h3 y hy)
    exact ⟨i, hi, trivial⟩
  exact ⟨l, h1, sz44 (by simpa using h0) bz_anss, h5⟩

theorem cz_entries : Tryz.prog.cellsOf 97 = 13 := by kernel_rfl
theorem bz_entries : 8 ≤ Tryz.prog.bytesOf 97 := by
  have : decide (8 ≤ Tryz.prog.bytesOf 97) = true := by kernel_rfl
  exact of_decide_eq_true this
theorem tz_entries {d : Nat} {cs : List AV} (h : TyZ Tryz.prog (d + 6) 43 cs) : ∃ l : List Entry, cs = [.slice false 13 (l.map entryc)] ∧ l.length < 2 ^ 44 ∧ ∀ x ∈ l, x.node.path.length < 2 ^ 44 := by
  rw [TyZ] at h
  simp only [Tryz.underlying43, cz_entries] at h
  obtain ⟨xs, h1, h0, h2, h3⟩ := h
  obtain ⟨l, rfl, h5⟩ := list_lift (f := entryc) (p := fun x => x.node.path.length < 2 ^ 44) xs fun y hy => by
    obtain ⟨i, hi, hj⟩ := tz_entry (h3 y hy)
    exact ⟨i, hi, hj⟩
  exact ⟨l, h1, sz44 (by simpa using h0) bz_entries, h5⟩

/-- Lists as long as the form lets them be. -/
structure State.Sized (s : State) : Prop where
  slots : s.slots.length < 2 ^ 44
  pending : s.pending.length < 2 ^ 44
  marks : s.marks.length < 2 ^ 44
  answers : s.answers.length < 2 ^ 44
  entries : s.entries.length < 2 ^ 44
  commits : s.commits.length < 2 ^ 44
  slot : ∀ x ∈ s.slots, x.node.path.length < 2 ^ 44
  req : ∀ x ∈ s.pending, x.src.path.length < 2 ^ 44 ∧ ∀ z ∈ callL x.call, Rng z
  entry : ∀ x ∈ s.entries, x.node.path.length < 2 ^ 44

structure View.Sized (v : View) : Prop where
  members : v.members.length < 2 ^ 44
  owners : v.owners.length < 2 ^ 44

structure Report.Sized (r : Report) : Prop where
  view : r.view.Sized
  state : r.state.Sized
  next : r.next.Sized
  proposal : r.proposal.Sized

structure Msg.Sized (m : Msg) : Prop where
  req : m.req.src.path.length < 2 ^ 44
  call : ∀ z ∈ callL m.req.call, Rng z
  ids : m.ids.length < 2 ^ 44
  nodes : m.nodes.length < 2 ^ 44
  node : ∀ x ∈ m.nodes, x.path.length < 2 ^ 44
  cores : m.cores.length < 2 ^ 44
  moves : m.moves.length < 2 ^ 44
  next : m.next.Sized
  state : m.state.Sized
  report : m.report.Sized

theorem up63 {n : Nat} (h : n < 2 ^ 44) : n < 2 ^ 63 := by omega

theorem State.Sized.fits {s : State} (h : s.Sized) : s.Fits := ⟨up63 h.slots, up63 h.pending, up63 h.marks, up63 h.answers, up63 h.entries, up63 h.commits, fun x hx => up63 (h.slot x hx), fun x hx => up63 (h.req x hx).1, fun x hx => up63 (h.entry x hx)⟩
theorem View.Sized.fits {v : View} (h : v.Sized) : v.Fits := ⟨up63 h.members, up63 h.owners⟩
theorem Report.Sized.fits {r : Report} (h : r.Sized) : r.Fits := ⟨h.view.fits, h.state.fits, h.next.fits, h.proposal.fits⟩
theorem Msg.Sized.fits {m : Msg} (h : m.Sized) : m.Fits := ⟨up63 h.req, up63 h.ids, up63 h.nodes, fun x hx => up63 (h.node x hx), up63 h.cores, up63 h.moves, h.next.fits, h.state.fits, h.report.fits⟩

def viewc (v : View) : List AV := [I v.number, .slice false 1 (intCells v.members), .slice false 1 (intCells v.owners)]
def reportc (r : Report) : List AV := [I r.core] ++ viewc r.view ++ statec r.state ++ [B r.ready] ++ viewc r.next ++ statec r.proposal
def msgc (m : Msg) : List AV := [I m.kind, I m.view, I m.frm, I m.to, I m.round, I m.region, I m.slot, I m.op.core, I m.op.op, I m.op.part, I m.err, B m.settled] ++ reqc m.req ++ [.slice false 3 (idCells m.ids), .slice false 11 (m.nodes.map nodec), .slice false 1 (intCells m.cores), .slice false 2 (m.moves.map movec), I m.base] ++ viewc m.next ++ statec m.state ++ reportc m.report

theorem tz_view {d : Nat} {cs : List AV} (h : TyZ Tryz.prog (d + 3) 38 cs) : ∃ v : View, cs = viewc v ∧ v.Sized := by
  rw [TyZ] at h
  simp only [Tryz.underlying38] at h
  obtain ⟨ps, rfl, hl, hp⟩ := h
  obtain ⟨p0, p1, p2, rfl⟩ : ∃ p0 p1 p2, ps = [p0, p1, p2] := by
    match ps, hl with
    | [p0, p1, p2], _ => exact ⟨p0, p1, p2, rfl⟩
  obtain ⟨n, rfl, _⟩ := tz_int (hp 0 _ _ rfl rfl)
  obtain ⟨a, rfl, ha, _⟩ := tz_ints (hp 1 _ _ rfl rfl)
  obtain ⟨b, rfl, hb, _⟩ := tz_ints (hp 2 _ _ rfl rfl)
  exact ⟨⟨n, a, b⟩, rfl, ⟨ha, hb⟩⟩

theorem tz_state {d : Nat} {cs : List AV} (h : TyZ Tryz.prog (d + 7) 45 cs) : ∃ s : State, cs = statec s ∧ s.Sized := by
  rw [TyZ] at h
  simp only [Tryz.underlying45] at h
  obtain ⟨ps, rfl, hl, hp⟩ := h
  obtain ⟨p0, p1, p2, p3, p4, p5, rfl⟩ : ∃ p0 p1 p2 p3 p4 p5, ps = [p0, p1, p2, p3, p4, p5] := by
    match ps, hl with
    | [p0, p1, p2, p3, p4, p5], _ => exact ⟨p0, p1, p2, p3, p4, p5, rfl⟩
  obtain ⟨a, rfl, a1, a2⟩ := tz_slots (hp 0 _ _ rfl rfl)
  obtain ⟨b, rfl, b1, b2⟩ := tz_reqs (hp 1 _ _ rfl rfl)
  obtain ⟨c, rfl, c1, _⟩ := tz_marks (hp 2 _ _ rfl rfl)
  obtain ⟨e, rfl, e1, _⟩ := tz_anss (hp 3 _ _ rfl rfl)
  obtain ⟨f, rfl, f1, f2⟩ := tz_entries (hp 4 _ _ rfl rfl)
  obtain ⟨g, rfl, g1, _⟩ := tz_ids (hp 5 _ _ rfl rfl)
  exact ⟨⟨a, b, c, e, f, g⟩, rfl, ⟨a1, b1, c1, e1, f1, g1, a2, b2, f2⟩⟩

theorem tz_report {d : Nat} {cs : List AV} (h : TyZ Tryz.prog (d + 8) 47 cs) : ∃ r : Report, cs = reportc r ∧ r.Sized := by
  rw [TyZ] at h
  simp only [Tryz.underlying47] at h
  obtain ⟨ps, rfl, hl, hp⟩ := h
  obtain ⟨p0, p1, p2, p3, p4, p5, rfl⟩ : ∃ p0 p1 p2 p3 p4 p5, ps = [p0, p1, p2, p3, p4, p5] := by
    match ps, hl with
    | [p0, p1, p2, p3, p4, p5], _ => exact ⟨p0, p1, p2, p3, p4, p5, rfl⟩
  obtain ⟨n, rfl, _⟩ := tz_int (hp 0 _ _ rfl rfl)
  obtain ⟨v, rfl, hv⟩ := tz_view (hp 1 _ _ rfl rfl)
  obtain ⟨s, rfl, hs⟩ := tz_state (hp 2 _ _ rfl rfl)
  obtain ⟨b, rfl⟩ := tz_bool (hp 3 _ _ rfl rfl)
  obtain ⟨w, rfl, hw⟩ := tz_view (hp 4 _ _ rfl rfl)
  obtain ⟨t, rfl, ht⟩ := tz_state (hp 5 _ _ rfl rfl)
  exact ⟨⟨n, v, s, b, w, t⟩, by simp [reportc], ⟨hv, hs, hw, ht⟩⟩

theorem tz_msg {d : Nat} {cs : List AV} (h : TyZ Tryz.prog (d + 10) 49 cs) : ∃ m : Msg, cs = msgc m ∧ m.Sized := by
  rw [TyZ] at h
  simp only [Tryz.underlying49] at h
  obtain ⟨ps, rfl, hl, hp⟩ := h
  obtain ⟨p0, p1, p2, p3, p4, p5, p6, p7, p8, p9, p10, p11, p12, p13, p14, p15, p16, p17, p18, rfl⟩ : ∃ p0 p1 p2 p3 p4 p5 p6 p7 p8 p9 p10 p11 p12 p13 p14 p15 p16 p17 p18, ps = [p0, p1, p2, p3, p4, p5, p6, p7, p8, p9, p10, p11, p12, p13, p14, p15, p16, p17, p18] := by
    match ps, hl with
    | [p0, p1, p2, p3, p4, p5, p6, p7, p8, p9, p10, p11, p12, p13, p14, p15, p16, p17, p18], _ => exact ⟨p0, p1, p2, p3, p4, p5, p6, p7, p8, p9, p10, p11, p12, p13, p14, p15, p16, p17, p18, rfl⟩
  obtain ⟨k0, rfl, _⟩ := tz_int (hp 0 _ _ rfl rfl)
  obtain ⟨k1, rfl, _⟩ := tz_int (hp 1 _ _ rfl rfl)
  obtain ⟨k2, rfl, _⟩ := tz_int (hp 2 _ _ rfl rfl)
  obtain ⟨k3, rfl, _⟩ := tz_int (hp 3 _ _ rfl rfl)
  obtain ⟨k4, rfl, _⟩ := tz_int (hp 4 _ _ rfl rfl)
  obtain ⟨k5, rfl, _⟩ := tz_int (hp 5 _ _ rfl rfl)
  obtain ⟨k6, rfl, _⟩ := tz_int (hp 6 _ _ rfl rfl)
  obtain ⟨op, rfl⟩ := tz_id (hp 7 _ _ rfl rfl)
  obtain ⟨e, rfl, _⟩ := tz_err (hp 8 _ _ rfl rfl)
  obtain ⟨st, rfl⟩ := tz_bool (hp 9 _ _ rfl rfl)
  obtain ⟨r, rfl, hr, hc⟩ := tz_req (hp 10 _ _ rfl rfl)
  obtain ⟨l1, rfl, h1, _⟩ := tz_ids (hp 11 _ _ rfl rfl)
  obtain ⟨l2, rfl, h2, h2b⟩ := tz_nodes (hp 12 _ _ rfl rfl)
  obtain ⟨l3, rfl, h3, _⟩ := tz_ints (hp 13 _ _ rfl rfl)
  obtain ⟨l4, rfl, h4, _⟩ := tz_moves (hp 14 _ _ rfl rfl)
  obtain ⟨bs, rfl, _⟩ := tz_int (hp 15 _ _ rfl rfl)
  obtain ⟨nx, rfl, hn⟩ := tz_view (hp 16 _ _ rfl rfl)
  obtain ⟨ss, rfl, hs⟩ := tz_state (hp 17 _ _ rfl rfl)
  obtain ⟨rp, rfl, hp2⟩ := tz_report (hp 18 _ _ rfl rfl)
  exact ⟨⟨k0, k1, k2, k3, k4, k5, k6, op, e, st, r, l1, l2, l3, l4, bs, nx, ss, rp⟩, by simp [msgc, idc], ⟨hr, hc, h1, h2, h2b, h3, h4, hn, hs, hp2⟩⟩

theorem arg_msg {x : AV} (h : ArgTz Tryz.prog 12 49 x) : ∃ m : Msg, x = .agg (msgc m) ∧ m.Sized := by
  simp only [ArgTz, Tryz.underlying49] at h
  obtain ⟨cs, rfl, h⟩ := h
  obtain ⟨m, rfl, hm⟩ := tz_msg h
  exact ⟨m, rfl, hm⟩

end Go.Proofs.YtceopohbfkamiaaGreat
end

section
namespace Go.Proofs.YtceopohbfkamiaaGreat
open Go Go.AM
set_option linter.unusedSimpArgs false
set_option linter.unusedVariables false
set_option maxRecDepth 100000

structure State.Short (s : State) : Prop where
  slots : s.slots.length ≤ 80
  pending : s.pending.length ≤ 80
  marks : s.marks.length ≤ 80
  answers : s.answers.length ≤ 80
  entries : s.entries.length ≤ 80
  commits : s.commits.length ≤ 80

theorem s11b (s : State) (h : s.Sized) : ∃ b, g11 (s.slots.map slotc) (s.pending.map reqc) (s.marks.map markc) (s.answers.map ansc) (s.entries.map entryc) (idCells s.commits) = some b ∧ (b = true → s.Short) := by
  obtain ⟨b, hb⟩ := s11 s h.fits
  refine ⟨b, hb, fun ht => ?_⟩
  have a1 := h.slots
  have a2 := h.pending
  have a3 := h.marks
  have a4 := h.answers
  have a5 := h.entries
  have a6 := h.commits
  rw [g11_eq] at hb
  simp only [List.length_map, ids_len] at hb
  rw [add_i (a := (s.slots.length : Int)) (b := (s.pending.length : Int)) (by omega) (by omega), add_i (b := (s.marks.length : Int)) (by omega) (by omega), add_i (b := (s.answers.length : Int)) (by omega) (by omega), add_i (b := (s.entries.length : Int)) (by omega) (by omega), add_i (b := (s.commits.length : Int)) (by omega) (by omega)] at hb
  by_cases hc : (cop .gtr ((s.slots.length : Int) + s.pending.length + s.marks.length + s.answers.length + s.entries.length + s.commits.length) 80) = true
  · rw [if_pos hc, ht] at hb
    cases hb
  · simp only [CQ] at hc
    exact ⟨by omega, by omega, by omega, by omega, by omega, by omega⟩

structure Msg.Short (m : Msg) : Prop where
  ids : m.ids.length ≤ 300
  nodes : m.nodes.length ≤ 300
  cores : m.cores.length ≤ 300
  moves : m.moves.length ≤ 300
  nm : m.next.members.length ≤ 300
  no : m.next.owners.length ≤ 300
  rvm : m.report.view.members.length ≤ 300
  rvo : m.report.view.owners.length ≤ 300
  rnm : m.report.next.members.length ≤ 300
  rno : m.report.next.owners.length ≤ 300
  state : m.state.Short
  rs : m.report.state.Short
  rp : m.report.proposal.Short

theorem s5 (m : Msg) (h : m.Sized) : ∃ b, g5 m.kind m.view m.frm m.to m.round m.region m.slot m.op.core m.op.op m.op.part m.err m.settled m.req.id.core m.req.id.op m.req.id.part m.req.call.kind m.req.call.slot m.req.call.dest m.req.call.core m.req.call.mask m.req.call.object m.req.call.bits m.req.call.level m.req.call.offset m.req.call.count m.req.call.index m.req.call.addr m.req.region m.req.width m.req.src.id.core m.req.src.id.op m.req.src.id.part (idCells m.req.src.path) m.req.src.cap.kind m.req.src.cap.base m.req.src.cap.bits m.req.src.cap.rights m.req.src.cap.width m.req.src.cap.level m.req.src.cap.device (idCells m.ids) (m.nodes.map nodec) (intCells m.cores) (m.moves.map movec) m.base m.next.number (intCells m.next.members) (intCells m.next.owners) (m.state.slots.map slotc) (m.state.pending.map reqc) (m.state.marks.map markc) (m.state.answers.map ansc) (m.state.entries.map entryc) (idCells m.state.commits) m.report.core m.report.view.number (intCells m.report.view.members) (intCells m.report.view.owners) (m.report.state.slots.map slotc) (m.report.state.pending.map reqc) (m.report.state.marks.map markc) (m.report.state.answers.map ansc) (m.report.state.entries.map entryc) (idCells m.report.state.commits) m.report.ready m.report.next.number (intCells m.report.next.members) (intCells m.report.next.owners) (m.report.proposal.slots.map slotc) (m.report.proposal.pending.map reqc) (m.report.proposal.marks.map markc) (m.report.proposal.answers.map ansc) (m.report.proposal.entries.map entryc) (idCells m.report.proposal.commits) = some b ∧ (b = true → m.Short) := by
  obtain ⟨b1, e1, f1⟩ := s11b m.state h.state
  obtain ⟨b2, e2, f2⟩ := s11b m.report.state h.report.state
  obtain ⟨b3, e3, f3⟩ := s11b m.report.proposal h.report.proposal
  have l0 := scan_all (F := fun k i => g5L0 k m.kind m.view m.frm m.to m.round m.region m.slot m.op.core m.op.op m.op.part m.err m.settled m.req.id.core m.req.id.op m.req.id.part m.req.call.kind m.req.call.slot m.req.call.dest m.req.call.core m.req.call.mask m.req.call.object m.req.call.bits m.req.call.level m.req.call.offset m.req.call.count m.req.call.index m.req.call.addr m.req.region m.req.width m.req.src.id.core m.req.src.id.op m.req.src.id.part (idCells m.req.src.path) m.req.src.cap.kind m.req.src.cap.base m.req.src.cap.bits m.req.src.cap.rights m.req.src.cap.width m.req.src.cap.level m.req.src.cap.device (idCells m.ids) (m.nodes.map nodec) (intCells m.cores) (m.moves.map movec) m.base m.next.number (intCells m.next.members) (intCells m.next.owners) (m.state.slots.map slotc) (m.state.pending.map reqc) (m.state.marks.map markc) (m.state.answers.map ansc) (m.state.entries.map entryc) (idCells m.state.commits) m.report.core m.report.view.number (intCells m.report.view.members) (intCells m.report.view.owners) (m.report.state.slots.map slotc) (m.report.state.pending.map reqc) (m.report.state.marks.map markc) (m.report.state.answers.map ansc) (m.report.state.entries.map entryc) (idCells m.report.state.commits) m.report.ready m.report.next.number (intCells m.report.next.members) (intCells m.report.next.owners) (m.report.proposal.slots.map slotc) (m.report.proposal.pending.map reqc) (m.report.proposal.marks.map markc) (m.report.proposal.answers.map ansc) (m.report.proposal.entries.map entryc) (idCells m.report.proposal.commits) i) (n := m.nodes.length) (fin := some (b1 && (b2 && b3))) (bad := some false) (atB (fun x : Node => !cop .gtr (x.path.length : Int) 30) m.nodes) (up63 h.nodes) 0 (by omega)
    (fun k i _ hi => by
      refine (g5L0_eq ..).trans ?_
      rw [List.length_map, if_pos (lss_t hi)]
      refine (elem_nodes hi _).trans ?_
      rw [inc_i hi (up63 h.nodes), atB_at _ hi]
      show (if (cop .gtr (List.length (idCells m.nodes[i].path) : Int) 30) = true then some false else g5L0 k m.kind m.view m.frm m.to m.round m.region m.slot m.op.core m.op.op m.op.part m.err m.settled m.req.id.core m.req.id.op m.req.id.part m.req.call.kind m.req.call.slot m.req.call.dest m.req.call.core m.req.call.mask m.req.call.object m.req.call.bits m.req.call.level m.req.call.offset m.req.call.count m.req.call.index m.req.call.addr m.req.region m.req.width m.req.src.id.core m.req.src.id.op m.req.src.id.part (idCells m.req.src.path) m.req.src.cap.kind m.req.src.cap.base m.req.src.cap.bits m.req.src.cap.rights m.req.src.cap.width m.req.src.cap.level m.req.src.cap.device (idCells m.ids) (m.nodes.map nodec) (intCells m.cores) (m.moves.map movec) m.base m.next.number (intCells m.next.members) (intCells m.next.owners) (m.state.slots.map slotc) (m.state.pending.map reqc) (m.state.marks.map markc) (m.state.answers.map ansc) (m.state.entries.map entryc) (idCells m.state.commits) m.report.core m.report.view.number (intCells m.report.view.members) (intCells m.report.view.owners) (m.report.state.slots.map slotc) (m.report.state.pending.map reqc) (m.report.state.marks.map markc) (m.report.state.answers.map ansc) (m.report.state.entries.map entryc) (idCells m.report.state.commits) m.report.ready m.report.next.number (intCells m.report.next.members) (intCells m.report.next.owners) (m.report.proposal.slots.map slotc) (m.report.proposal.pending.map reqc) (m.report.proposal.marks.map markc) (m.report.proposal.answers.map ansc) (m.report.proposal.entries.map entryc) (idCells m.report.proposal.commits) ((i + 1 : Nat) : Int)) = _
      rw [ids_len]
      cases cop .gtr (m.nodes[i].path.length : Int) 30 <;> rfl)
    (fun k i hi => by
      refine (g5L0_eq ..).trans ?_
      rw [List.length_map, if_neg (lss_f hi), e1, e2, e3]
      exact and_if _ (and_if _ rfl))
  have a1 := h.ids
  have a2 := h.nodes
  have a3 := h.cores
  have a4 := h.moves
  have a5 := h.next.members
  have a6 := h.next.owners
  have a7 := h.report.view.members
  have a8 := h.report.view.owners
  have a9 := h.report.next.members
  have a10 := h.report.next.owners
  rw [g5_eq]
  simp only [List.length_map, ids_len, ints_len]
  rw [add_i (a := (m.ids.length : Int)) (b := (m.nodes.length : Int)) (by omega) (by omega), add_i (b := (m.cores.length : Int)) (by omega) (by omega), add_i (b := (m.moves.length : Int)) (by omega) (by omega), add_i (b := (m.next.members.length : Int)) (by omega) (by omega), add_i (b := (m.next.owners.length : Int)) (by omega) (by omega), add_i (b := (m.report.view.members.length : Int)) (by omega) (by omega), add_i (b := (m.report.view.owners.length : Int)) (by omega) (by omega), add_i (b := (m.report.next.members.length : Int)) (by omega) (by omega), add_i (b := (m.report.next.owners.length : Int)) (by omega) (by omega)]
  by_cases hc : (cop .gtr ((m.ids.length : Int) + m.nodes.length + m.cores.length + m.moves.length + m.next.members.length + m.next.owners.length + m.report.view.members.length + m.report.view.owners.length + m.report.next.members.length + m.report.next.owners.length) 300) = true
  · exact ⟨false, if_pos hc, fun h => by cases h⟩
  · rw [if_neg hc]
    simp only [CQ] at hc
    by_cases hp : (cop .gtr (m.req.src.path.length : Int) 30) = true
    · exact ⟨false, if_pos hp, fun h => by cases h⟩
    · rw [if_neg hp]
      refine ⟨_, Eq.trans l0 (show _ = some ((List.range' 0 (m.nodes.length - 0)).all (atB (fun x : Node => !cop .gtr (x.path.length : Int) 30) m.nodes) && (b1 && (b2 && b3))) from ?_), fun hb => ?_⟩
      · cases (List.range' 0 (m.nodes.length - 0)).all (atB (fun x : Node => !cop .gtr (x.path.length : Int) 30) m.nodes) <;> rfl
      · simp only [Bool.and_eq_true] at hb
        exact ⟨by omega, by omega, by omega, by omega, by omega, by omega, by omega, by omega, by omega, by omega, f1 hb.2.1, f2 hb.2.2.1, f3 hb.2.2.2⟩

/-! valid parts can be written -/
theorem n63 {z a : Int} (h0 : 0 ≤ z) (h1 : z ≤ 1099511627776) : N63 z := by
  have : (2 : Int) ^ 63 = 9223372036854775808 := by decide
  exact ⟨h0, by omega⟩

theorem small_op {i : Id} (h : opOk i = true) : i.Small := by
  simp only [opOk, Bool.and_eq_true] at h
  exact nat_of_ok h.1

theorem reg63 {z : Int} (h : regOk z = true) : N63 z := by have := of_decide_eq_true h; exact n63 (a := 0) (by omega) (by omega)
theorem core63 {z : Int} (h : coreOk z = true) : N63 z := by have := of_decide_eq_true h; exact n63 (a := 0) (by omega) (by omega)
theorem slot63 {z : Int} (h : slotOk z = true) : N63 z := by have := of_decide_eq_true h; exact n63 (a := 0) (by omega) (by omega)
theorem err63 {z : Int} (h : errOk z = true) : N63 z := by have := of_decide_eq_true h; exact n63 (a := 0) (by omega) (by omega)
theorem num63 {z : Int} (h : numOk z = true) : N63 z := by have := of_decide_eq_true h; exact n63 (a := 0) (by omega) (by omega)
theorem zero63 : N63 0 := ⟨by decide, by decide⟩

theorem good_req {r : Req} (hp : r.src.path.length < 2 ^ 44) (hc : ∀ z ∈ callL r.call, Rng z) (h : reqOk r = true) : r.Good := by
  simp only [reqOk, Bool.and_eq_true, decide_eq_true_eq] at h
  obtain ⟨⟨⟨⟨h1, h2⟩, h3⟩, h4⟩, h5⟩ := h
  have hr := reg63 h3
  have h63 : (2 : Int) ^ 63 = 9223372036854775808 := by decide
  exact ⟨small_op h1, hc, hr.1, hr.2, by omega, by omega, up63 hp⟩

theorem zero_req {r : Req} (hp : r.src.path.length < 2 ^ 44) (hc : ∀ z ∈ callL r.call, Rng z) (h : zReq r = true) : r.Good := by
  simp only [zReq, Bool.and_eq_true, decide_eq_true_eq] at h
  obtain ⟨⟨⟨⟨h1, h2⟩, h3⟩, h4⟩, h5⟩ := h
  have h63 : (2 : Int) ^ 63 = 9223372036854775808 := by decide
  exact ⟨by rw [h1]; exact nat_zid, hc, by omega, by omega, by omega, by omega, up63 hp⟩

theorem good_state {s : State} (hz : s.Sized) (hs : s.Short) (h : stateOk s = true) : s.Good := by
  simp only [stateOk, Bool.and_eq_true, List.all_eq_true] at h
  obtain ⟨⟨⟨⟨⟨h1, h2⟩, h3⟩, h4⟩, h5⟩, h6⟩ := h
  have a1 := hs.slots
  have a2 := hs.pending
  have a3 := hs.marks
  have a4 := hs.answers
  have a5 := hs.entries
  have a6 := hs.commits
  have hslot : s.slots.all slot1 = true := by
    simp only [slotsOk, Bool.and_eq_true] at h1
    rw [all_and, Bool.and_eq_true, all_at] at h1
    exact h1.2.1
  rw [List.all_eq_true] at hslot
  refine ⟨by omega, by omega, by omega, by omega, by omega, by omega, fun x hx => ?_, fun x hx => good_req (hz.req x hx).1 (hz.req x hx).2 (h2.1 x hx), fun x hx => ?_, fun x hx => ?_, fun x hx => ?_, fun x hx => small_op (h6 x hx)⟩
  · have h := hslot x hx
    simp only [slot1, Bool.and_eq_true, decide_eq_true_eq] at h
    obtain ⟨ho, hi⟩ := h
    refine ⟨up63 (hz.slot x hx), n63 (a := 0) (by omega) (by omega), ?_⟩
    split at hi
    · simp only [Bool.and_eq_true, decide_eq_true_eq] at hi
      rw [hi.2]; exact nat_zid
    · simp only [Bool.and_eq_true, Bool.or_eq_true, decide_eq_true_eq] at hi
      rcases hi.2 with e | e
      · rw [e]; exact nat_zid
      · exact small_op e
  · have h := h3.1 x hx
    simp only [markOk, Bool.and_eq_true] at h
    exact ⟨reg63 h.1, small_op h.2⟩
  · have h := h4.1 x hx
    simp only [ansOk, Bool.and_eq_true, decide_eq_true_eq] at h
    exact ⟨n63 (a := 0) (by omega) (by omega), err63 h.2⟩
  · have h := h5.1 x hx
    simp only [entOk, Bool.and_eq_true] at h
    exact ⟨core63 h.1.1, slot63 h.1.2, up63 (hz.entry x hx)⟩

theorem none_of {α : Type} {l : List α} (h : l.length = 0) {p : α → Prop} : ∀ x ∈ l, p x := by
  rw [List.length_eq_zero_iff.1 h]; intro x hx; cases hx

theorem zero_state {s : State} (hs : s.Short) (h : zState s = true) : s.Good := by
  simp only [zState, Bool.and_eq_true, decide_eq_true_eq] at h
  obtain ⟨⟨⟨⟨⟨h1, h2⟩, h3⟩, h4⟩, h5⟩, h6⟩ := h
  exact ⟨by omega, by omega, by omega, by omega, by omega, by omega, none_of h1, none_of h2, none_of h3, none_of h4, none_of h5, none_of h6⟩

theorem good_view {v : View} (h : viewOk v = true) (hm : v.members.length ≤ 300) (ho : v.owners.length ≤ 300) : v.Good := by
  simp only [viewOk, Bool.and_eq_true, decide_eq_true_eq] at h
  obtain ⟨⟨⟨⟨h1, h2⟩, h3⟩, h4⟩, h5⟩ := h
  rw [all_and, Bool.and_eq_true, all_at] at h4
  exact ⟨num63 h1, by omega, by omega, fun x hx => core63 (List.all_eq_true.1 h4.1 x hx), fun x hx => core63 (List.all_eq_true.1 h5 x hx)⟩

theorem zero_view {v : View} (h : zView v = true) : v.Good := by
  simp only [zView, Bool.and_eq_true, decide_eq_true_eq] at h
  obtain ⟨⟨h1, h2⟩, h3⟩ := h
  exact ⟨by rw [h1]; exact zero63, by omega, by omega, none_of h2, none_of h3⟩

theorem good_msg {m : Msg} (hz : m.Sized) (hs : m.Short) (h : validB m = true) : m.Good := by
  simp only [validB, headOk, Bool.and_eq_true] at h
  obtain ⟨⟨⟨⟨k1, k2⟩, k3⟩, k4⟩, hf, hr⟩ := h
  have hk := of_decide_eq_true k1
  have fo : ∀ f, f < 15 → fieldOk m f = true ∨ zf m f = true := by
    intro f hf'
    by_cases hc : f ∈ kf m.kind.toNat
    · exact .inl (List.all_eq_true.1 hf f hc)
    · exact .inr (rest_at hr f hf' (by simpa using hc))
  have i0 := hs.ids
  have i1 := hs.nodes
  have i2 := hs.cores
  have i3 := hs.moves
  refine ⟨n63 (a := 0) (by omega) (by omega), num63 k2, core63 k3, core63 k4, ?_, ?_, ?_, ?_, ?_, ?_, by omega, ?_, by omega, fun x hx => up63 (hz.node x hx), by omega, ?_, by omega, ?_, ?_, ?_, ?_, ?_⟩
  · rcases fo 8 (by omega) with e | e
    · exact num63 e
    · rw [show m.round = 0 from of_decide_eq_true e]; exact zero63
  · rcases fo 0 (by omega) with e | e
    · exact reg63 e
    · rw [show m.region = 0 from of_decide_eq_true e]; exact zero63
  · rcases fo 6 (by omega) with e | e
    · exact slot63 e
    · rw [show m.slot = 0 from of_decide_eq_true e]; exact zero63
  · rcases fo 2 (by omega) with e | e
    · exact small_op e
    · rw [show m.op = zid from of_decide_eq_true e]; exact nat_zid
  · rcases fo 3 (by omega) with e | e
    · exact err63 e
    · rw [show m.err = 0 from of_decide_eq_true e]; exact zero63
  · rcases fo 1 (by omega) with e | e
    · exact good_req hz.req hz.call e
    · exact zero_req hz.req hz.call e
  · rcases fo 7 (by omega) with e | e
    · have e : (decide (m.ids.length ≤ 64) && m.ids.all idOk) = true := e
      simp only [Bool.and_eq_true, List.all_eq_true] at e
      exact fun x hx => nat_of_ok (e.2 x hx)
    · exact none_of (of_decide_eq_true e)
  · rcases fo 9 (by omega) with e | e
    · have e : (m.cores.all coreOk && ascB ltI m.cores) = true := e
      simp only [Bool.and_eq_true, List.all_eq_true] at e
      exact fun x hx => core63 (e.1 x hx)
    · exact none_of (of_decide_eq_true e)
  · rcases fo 14 (by omega) with e | e
    · have e : (decide (m.moves.length ≤ 16) && m.moves.all moveOk) = true := e
      simp only [Bool.and_eq_true, List.all_eq_true, moveOk] at e
      exact fun x hx => ⟨reg63 (e.2 x hx).1, core63 (e.2 x hx).2⟩
    · exact none_of (of_decide_eq_true e)
  · rcases fo 11 (by omega) with e | e
    · exact num63 e
    · rw [show m.base = 0 from of_decide_eq_true e]; exact zero63
  · rcases fo 12 (by omega) with e | e
    · exact good_view e hs.nm hs.no
    · exact zero_view e
  · rcases fo 13 (by omega) with e | e
    · exact good_state hz.state hs.state e
    · exact zero_state hs.state e
  · rcases fo 10 (by omega) with e | e
    · have e : repOk m.report = true := e
      simp only [repOk, Bool.and_eq_true] at e
      exact ⟨core63 e.1.1.1.1, good_view e.1.1.1.2 hs.rvm hs.rvo, good_state hz.report.state hs.rs e.1.1.2, good_view e.1.2 hs.rnm hs.rno, good_state hz.report.proposal hs.rp e.2⟩
    · have e : zReport m.report = true := e
      simp only [zReport, Bool.and_eq_true, decide_eq_true_eq] at e
      exact ⟨by rw [e.1.1.1.1.1]; exact zero63, zero_view e.1.1.1.1.2, zero_state hs.rs e.1.1.1.2, zero_view e.1.2, zero_state hs.rp e.2⟩

end Go.Proofs.YtceopohbfkamiaaGreat
end

section
namespace Go.Proofs.YtceopohbfkamiaaGreat
open Go Go.AM
set_option linter.unusedSimpArgs false
set_option linter.unusedVariables false
set_option maxRecDepth 100000

theorem by_app {a b : List Int} (ha : Bytes a) (hb : Bytes b) : Bytes (a ++ b) := fun z hz => (List.mem_append.1 hz).elim (ha z) (hb z)
theorem by_nil : Bytes [] := fun z hz => by cases hz
theorem by_flat {α : Type} (c : α → List Int) (h : ∀ x, Bytes (c x)) (l : List α) : Bytes (l.map c).flatten := by
  intro z hz
  obtain ⟨a, ha, hza⟩ := List.mem_flatten.1 hz
  obtain ⟨x, _, rfl⟩ := List.mem_map.1 ha
  exact h x z hza
theorem by_n (z : Int) : Bytes (nB z) := uv_bytes _
theorem by_id (i : Id) : Bytes (idB i) := by_app (by_app (uv_bytes _) (uv_bytes _)) (uv_bytes _)
theorem by_call (c : Call) : Bytes (callB c) := by_flat sgB (fun x => uv_bytes _) _
theorem by_cap (c : Cap) (h : capOk c = true) : Bytes (capCode c) := by
  obtain ⟨h1, h2, h3, h4, h5, h6, h7, h8, h9, h10, h11, h12⟩ := cap_nums h
  intro z hz
  simp only [capCode, List.mem_cons, List.not_mem_nil, or_false] at hz
  rcases hz with rfl | rfl | rfl | rfl | rfl | rfl | rfl | rfl | rfl | rfl
  · omega
  · omega
  · split <;> omega
  all_goals omega
theorem by_nodeB (n : Node) : Bytes (nodeB n) := by
  unfold nodeB
  split
  · rename_i h
    have hc : capOk n.cap = true := by
      simp only [nodeOk, Bool.and_eq_true] at h
      exact h.1.1.2
    exact by_app (by_app (by_app (by_id _) (uv_bytes _)) (by_flat idB by_id _)) (by_cap n.cap hc)
  · exact by_nil
theorem by_node (n : Node) : Bytes (nodeL n) := by_app (by_n _) (by_nodeB n)
theorem by_req (r : Req) : Bytes (reqB r) := by_app (by_app (by_app (by_app (by_id _) (by_call _)) (by_n _)) (by_n _)) (by_node _)
theorem by_slot (s : Slot) : Bytes (slotB s) := by_app (by_app (by_node _) (by_n _)) (by_id _)
theorem by_mark (m : Mark) : Bytes (markB m) := by_app (by_n _) (by_id _)
theorem by_ans (m : Ans) : Bytes (ansB m) := by_app (by_n _) (by_n _)
theorem by_ent (e : Entry) : Bytes (entB e) := by_app (by_app (by_n _) (by_n _)) (by_node _)
theorem by_move (m : Move) : Bytes (moveB m) := by_app (by_n _) (by_n _)
theorem by_list {α : Type} (c : α → List Int) (h : ∀ x, Bytes (c x)) (l : List α) : Bytes (listB c l) := by_app (by_n _) (by_flat c h l)
theorem by_state (s : State) : Bytes (stateB s) := by_app (by_list _ by_slot _) (by_app (by_list _ by_req _) (by_app (by_list _ by_mark _) (by_app (by_list _ by_ans _) (by_app (by_list _ by_ent _) (by_list _ by_id _)))))
theorem by_view (v : View) : Bytes (viewB v) := by_app (by_n _) (by_app (by_list _ by_n _) (by_list _ by_n _))
theorem by_b (b : Bool) : Bytes (bB b) := by
  unfold bB
  split
  · exact by_n 1
  · exact by_n 0
theorem by_rep (r : Report) : Bytes (repB r) := by_app (by_n _) (by_app (by_view _) (by_app (by_state _) (by_app (by_b _) (by_app (by_view _) (by_state _)))))
theorem by_field (m : Msg) (f : Nat) : Bytes (fieldB m f) := by
  unfold fieldB
  split
  · exact by_n _
  · exact by_req _
  · exact by_id _
  · exact by_n _
  · exact by_b _
  · exact by_list _ by_node _
  · exact by_n _
  · exact by_list _ by_id _
  · exact by_n _
  · exact by_list _ by_n _
  · exact by_rep _
  · exact by_n _
  · exact by_view _
  · exact by_state _
  · exact by_list _ by_move _
  · exact by_nil
theorem by_msg (m : Msg) : Bytes (msgB m) := by_app (by_app (by_n _) (by_app (by_n _) (by_app (by_n _) (by_n _)))) (by_flat _ (by_field m) _)

theorem s3 (m : Msg) (h : m.Sized) : g3 m.kind m.view m.frm m.to m.round m.region m.slot m.op.core m.op.op m.op.part m.err m.settled m.req.id.core m.req.id.op m.req.id.part m.req.call.kind m.req.call.slot m.req.call.dest m.req.call.core m.req.call.mask m.req.call.object m.req.call.bits m.req.call.level m.req.call.offset m.req.call.count m.req.call.index m.req.call.addr m.req.region m.req.width m.req.src.id.core m.req.src.id.op m.req.src.id.part (idCells m.req.src.path) m.req.src.cap.kind m.req.src.cap.base m.req.src.cap.bits m.req.src.cap.rights m.req.src.cap.width m.req.src.cap.level m.req.src.cap.device (idCells m.ids) (m.nodes.map nodec) (intCells m.cores) (m.moves.map movec) m.base m.next.number (intCells m.next.members) (intCells m.next.owners) (m.state.slots.map slotc) (m.state.pending.map reqc) (m.state.marks.map markc) (m.state.answers.map ansc) (m.state.entries.map entryc) (idCells m.state.commits) m.report.core m.report.view.number (intCells m.report.view.members) (intCells m.report.view.owners) (m.report.state.slots.map slotc) (m.report.state.pending.map reqc) (m.report.state.marks.map markc) (m.report.state.answers.map ansc) (m.report.state.entries.map entryc) (idCells m.report.state.commits) m.report.ready m.report.next.number (intCells m.report.next.members) (intCells m.report.next.owners) (m.report.proposal.slots.map slotc) (m.report.proposal.pending.map reqc) (m.report.proposal.marks.map markc) (m.report.proposal.answers.map ansc) (m.report.proposal.entries.map entryc) (idCells m.report.proposal.commits) = some true := by
  obtain ⟨b, hb, hs⟩ := s5 m h
  rw [g3_eq, hb, s6, Option.bind_some]
  cases b with
  | false => rfl
  | true =>
    have hg : validB m = true → m.Good := fun hv => good_msg h (hs rfl) hv
    rw [if_neg (by simp), s7 m h.fits hg, Option.bind_some, s8 m h.fits hg, Option.bind_some, s9 m h.fits, Option.bind_some, s10 m h.fits, Option.bind_some, if_pos (beq_self_eq_true _)]
    have hp : ∀ v : Bool, bytesP (if v = true then (byteCells (msgB m), (0 : Int)) else (([] : List (List AV)), 1)).1 := by
      intro v
      cases v with
      | true => exact bytes_ok (by_msg m)
      | false => exact bytes_ok by_nil
    rw [reqK_pos (hp _), reqK_pos (hp _), if_pos (beq_self_eq_true _), if_pos (by simp [cop]), Option.bind_some]

end Go.Proofs.YtceopohbfkamiaaGreat
end
