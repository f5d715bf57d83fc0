/- L18j, Q11c, Q11d, Q11e, Q11f, Q12b, Q12g, L18k, L18l, L18m: texts of the proof, put together. -/
import Derived.Test.YtceopohbfkamiaaGreatM5
import Derived.Test.YtceopohbfkamiaaGreatF18b

section
namespace Go.Proofs.YtceopohbfkamiaaGreat
open Go Go.AM
set_option linter.unusedSimpArgs false
set_option linter.unusedVariables false
set_option maxRecDepth 100000

theorem l10 (m x : Msg) (h : m.Fits) (hx : x.Fits) : ∀ (j i fuel : Nat) (ok : Bool), m.nodes.length = i + j → j < fuel →
    g10L0 fuel m.kind m.view m.frm m.to m.round m.region m.slot m.op.core m.op.op m.op.part m.err m.settled m.req.id.core m.req.id.op m.req.id.part m.req.call.kind m.req.call.slot m.req.call.dest m.req.call.core m.req.call.mask m.req.call.object m.req.call.bits m.req.call.level m.req.call.offset m.req.call.count m.req.call.index m.req.call.addr m.req.region m.req.width m.req.src.id.core m.req.src.id.op m.req.src.id.part (idCells m.req.src.path) m.req.src.cap.kind m.req.src.cap.base m.req.src.cap.bits m.req.src.cap.rights m.req.src.cap.width m.req.src.cap.level m.req.src.cap.device (idCells m.ids) (m.nodes.map nodec) (intCells m.cores) (m.moves.map movec) m.base m.next.number (intCells m.next.members) (intCells m.next.owners) (m.state.slots.map slotc) (m.state.pending.map reqc) (m.state.marks.map markc) (m.state.answers.map ansc) (m.state.entries.map entryc) (idCells m.state.commits) m.report.core m.report.view.number (intCells m.report.view.members) (intCells m.report.view.owners) (m.report.state.slots.map slotc) (m.report.state.pending.map reqc) (m.report.state.marks.map markc) (m.report.state.answers.map ansc) (m.report.state.entries.map entryc) (idCells m.report.state.commits) m.report.ready m.report.next.number (intCells m.report.next.members) (intCells m.report.next.owners) (m.report.proposal.slots.map slotc) (m.report.proposal.pending.map reqc) (m.report.proposal.marks.map markc) (m.report.proposal.answers.map ansc) (m.report.proposal.entries.map entryc) (idCells m.report.proposal.commits) x.kind x.view x.frm x.to x.round x.region x.slot x.op.core x.op.op x.op.part x.err x.settled x.req.id.core x.req.id.op x.req.id.part x.req.call.kind x.req.call.slot x.req.call.dest x.req.call.core x.req.call.mask x.req.call.object x.req.call.bits x.req.call.level x.req.call.offset x.req.call.count x.req.call.index x.req.call.addr x.req.region x.req.width x.req.src.id.core x.req.src.id.op x.req.src.id.part (idCells x.req.src.path) x.req.src.cap.kind x.req.src.cap.base x.req.src.cap.bits x.req.src.cap.rights x.req.src.cap.width x.req.src.cap.level x.req.src.cap.device (idCells x.ids) (x.nodes.map nodec) (intCells x.cores) (x.moves.map movec) x.base x.next.number (intCells x.next.members) (intCells x.next.owners) (x.state.slots.map slotc) (x.state.pending.map reqc) (x.state.marks.map markc) (x.state.answers.map ansc) (x.state.entries.map entryc) (idCells x.state.commits) x.report.core x.report.view.number (intCells x.report.view.members) (intCells x.report.view.owners) (x.report.state.slots.map slotc) (x.report.state.pending.map reqc) (x.report.state.marks.map markc) (x.report.state.answers.map ansc) (x.report.state.entries.map entryc) (idCells x.report.state.commits) x.report.ready x.report.next.number (intCells x.report.next.members) (intCells x.report.next.owners) (x.report.proposal.slots.map slotc) (x.report.proposal.pending.map reqc) (x.report.proposal.marks.map markc) (x.report.proposal.answers.map ansc) (x.report.proposal.entries.map entryc) (idCells x.report.proposal.commits) ok (i : Int) = some (ok && ((m.nodes.drop i).all nodeOk && (regOk m.region && sameM m x))) := by
  intro j
  induction j with
  | zero =>
    intro i fuel ok hij hf
    obtain ⟨f, rfl⟩ : ∃ f, fuel = f + 1 := ⟨fuel - 1, by omega⟩
    refine (g10L0_eq ..).trans ?_
    rw [List.length_map, if_neg (lss_f (by omega)), List.drop_of_length_le (by omega)]
    cases ok with
    | false => rfl
    | true =>
      rw [if_pos rfl, s46, Option.bind_some, s17 m x h hx, Option.bind_some]
      cases regOk m.region <;> rfl
  | succ j ih =>
    intro i fuel ok hij hf
    obtain ⟨f, rfl⟩ : ∃ f, fuel = f + 1 := ⟨fuel - 1, by omega⟩
    have hi : i < m.nodes.length := by omega
    refine (g10L0_eq ..).trans ?_
    rw [List.length_map, if_pos (lss_t hi)]
    cases ok with
    | false => rfl
    | true =>
      rw [if_pos rfl]
      refine (elem_nodes hi _).trans ?_
      simp only [nodeV, d2, d4, d8, d16]
      rw [s45 _ (h.node _ (List.getElem_mem hi)), Option.bind_some, inc_i hi h.nodes, ih (i + 1) f _ (by omega) (by omega), List.drop_eq_getElem_cons hi, List.all_cons]
      cases nodeOk m.nodes[i] <;> rfl

theorem kne {a b : Int} (h : a ≠ b) : ¬ (cop .eql a b = true) := by simp only [CQ]; exact h
theorem keq {a b : Int} (h : a = b) : cop .eql a b = true := by simp only [CQ]; exact h
@[reducible] noncomputable def G10 (m : Msg) := g10 m.kind m.view m.frm m.to m.round m.region m.slot m.op.core m.op.op m.op.part m.err m.settled m.req.id.core m.req.id.op m.req.id.part m.req.call.kind m.req.call.slot m.req.call.dest m.req.call.core m.req.call.mask m.req.call.object m.req.call.bits m.req.call.level m.req.call.offset m.req.call.count m.req.call.index m.req.call.addr m.req.region m.req.width m.req.src.id.core m.req.src.id.op m.req.src.id.part (idCells m.req.src.path) m.req.src.cap.kind m.req.src.cap.base m.req.src.cap.bits m.req.src.cap.rights m.req.src.cap.width m.req.src.cap.level m.req.src.cap.device (idCells m.ids) (m.nodes.map nodec) (intCells m.cores) (m.moves.map movec) m.base m.next.number (intCells m.next.members) (intCells m.next.owners) (m.state.slots.map slotc) (m.state.pending.map reqc) (m.state.marks.map markc) (m.state.answers.map ansc) (m.state.entries.map entryc) (idCells m.state.commits) m.report.core m.report.view.number (intCells m.report.view.members) (intCells m.report.view.owners) (m.report.state.slots.map slotc) (m.report.state.pending.map reqc) (m.report.state.marks.map markc) (m.report.state.answers.map ansc) (m.report.state.entries.map entryc) (idCells m.report.state.commits) m.report.ready m.report.next.number (intCells m.report.next.members) (intCells m.report.next.owners) (m.report.proposal.slots.map slotc) (m.report.proposal.pending.map reqc) (m.report.proposal.marks.map markc) (m.report.proposal.answers.map ansc) (m.report.proposal.entries.map entryc) (idCells m.report.proposal.commits)
@[reducible] noncomputable def G10L (m : Msg) := g10L0 FUEL m.kind m.view m.frm m.to m.round m.region m.slot m.op.core m.op.op m.op.part m.err m.settled m.req.id.core m.req.id.op m.req.id.part m.req.call.kind m.req.call.slot m.req.call.dest m.req.call.core m.req.call.mask m.req.call.object m.req.call.bits m.req.call.level m.req.call.offset m.req.call.count m.req.call.index m.req.call.addr m.req.region m.req.width m.req.src.id.core m.req.src.id.op m.req.src.id.part (idCells m.req.src.path) m.req.src.cap.kind m.req.src.cap.base m.req.src.cap.bits m.req.src.cap.rights m.req.src.cap.width m.req.src.cap.level m.req.src.cap.device (idCells m.ids) (m.nodes.map nodec) (intCells m.cores) (m.moves.map movec) m.base m.next.number (intCells m.next.members) (intCells m.next.owners) (m.state.slots.map slotc) (m.state.pending.map reqc) (m.state.marks.map markc) (m.state.answers.map ansc) (m.state.entries.map entryc) (idCells m.state.commits) m.report.core m.report.view.number (intCells m.report.view.members) (intCells m.report.view.owners) (m.report.state.slots.map slotc) (m.report.state.pending.map reqc) (m.report.state.marks.map markc) (m.report.state.answers.map ansc) (m.report.state.entries.map entryc) (idCells m.report.state.commits) m.report.ready m.report.next.number (intCells m.report.next.members) (intCells m.report.next.owners) (m.report.proposal.slots.map slotc) (m.report.proposal.pending.map reqc) (m.report.proposal.marks.map markc) (m.report.proposal.answers.map ansc) (m.report.proposal.entries.map entryc) (idCells m.report.proposal.commits)

def sel (b : Nat → Bool) (m : Msg) : Msg := ⟨m.kind, m.view, m.frm, m.to, if b 8 = true then m.round else 0, if b 0 = true then m.region else 0, if b 6 = true then m.slot else 0, if b 2 = true then m.op else zid, if b 3 = true then m.err else 0, if b 4 = true then m.settled else false, if b 1 = true then m.req else noReq, if b 7 = true then m.ids else [], if b 5 = true then m.nodes else [], if b 9 = true then m.cores else [], if b 14 = true then m.moves else [], if b 11 = true then m.base else 0, if b 12 = true then m.next else noView, if b 13 = true then m.state else noState, if b 10 = true then m.report else noReport⟩

theorem sel_fits (b : Nat → Bool) {m : Msg} (h : m.Fits) : (sel b m).Fits := by
  refine ⟨?_, ?_, ?_, ?_, ?_, ?_, ?_, ?_, ?_⟩
  · show (if b 1 = true then m.req else noReq).src.path.length < 2 ^ 63
    cases b 1 <;> first | exact h.req | (show ([] : List Id).length < 2 ^ 63; simp)
  · show (if b 7 = true then m.ids else []).length < 2 ^ 63
    cases b 7 <;> first | exact h.ids | (show ([] : List Id).length < 2 ^ 63; simp)
  · show (if b 5 = true then m.nodes else []).length < 2 ^ 63
    cases b 5 <;> first | exact h.nodes | (show ([] : List Node).length < 2 ^ 63; simp)
  · show ∀ x ∈ (if b 5 = true then m.nodes else []), x.path.length < 2 ^ 63
    cases b 5 <;> first | exact h.node | (intro x hx; cases hx)
  · show (if b 9 = true then m.cores else []).length < 2 ^ 63
    cases b 9 <;> first | exact h.cores | (show ([] : List Int).length < 2 ^ 63; simp)
  · show (if b 14 = true then m.moves else []).length < 2 ^ 63
    cases b 14 <;> first | exact h.moves | (show ([] : List Move).length < 2 ^ 63; simp)
  · show (if b 12 = true then m.next else noView).Fits
    cases b 12 <;> first | exact h.next | exact ⟨by simp [noView], by simp [noView]⟩
  · show (if b 13 = true then m.state else noState).Fits
    cases b 13 <;> first | exact h.state | exact ⟨by simp [noState], by simp [noState], by simp [noState], by simp [noState], by simp [noState], by simp [noState], by simp [noState], by simp [noState], by simp [noState]⟩
  · show (if b 10 = true then m.report else noReport).Fits
    cases b 10 <;> first | exact h.report | exact ⟨⟨by simp [noReport, noView], by simp [noReport, noView]⟩, ⟨by simp [noReport, noState], by simp [noReport, noState], by simp [noReport, noState], by simp [noReport, noState], by simp [noReport, noState], by simp [noReport, noState], by simp [noReport, noState], by simp [noReport, noState], by simp [noReport, noState]⟩, ⟨by simp [noReport, noView], by simp [noReport, noView]⟩, ⟨by simp [noReport, noState], by simp [noReport, noState], by simp [noReport, noState], by simp [noReport, noState], by simp [noReport, noState], by simp [noReport, noState], by simp [noReport, noState], by simp [noReport, noState], by simp [noReport, noState]⟩⟩

theorem sel_same (b : Nat → Bool) (m : Msg) : sameM m (sel b m) = (List.range 15).all (fun g => b g || zf m g) := by
  have k0 : (!cop .neq m.kind (sel b m).kind) = true := by simp [sel, cop]
  have k1 : (!cop .neq m.view (sel b m).view) = true := by simp [sel, cop]
  have k2 : (!cop .neq m.frm (sel b m).frm) = true := by simp [sel, cop]
  have k3 : (!cop .neq m.to (sel b m).to) = true := by simp [sel, cop]
  have e8 : (!cop .neq m.round (sel b m).round) = (b 8 || zf m 8) := by
    show (!cop .neq m.round (if b 8 = true then m.round else 0)) = (b 8 || decide (m.round = 0))
    cases b 8 with
    | true => simp [cop]
    | false => rw [bool_iff]; simp [cop]
  have e0 : (!cop .neq m.region (sel b m).region) = (b 0 || zf m 0) := by
    show (!cop .neq m.region (if b 0 = true then m.region else 0)) = (b 0 || decide (m.region = 0))
    cases b 0 with
    | true => simp [cop]
    | false => rw [bool_iff]; simp [cop]
  have e6 : (!cop .neq m.slot (sel b m).slot) = (b 6 || zf m 6) := by
    show (!cop .neq m.slot (if b 6 = true then m.slot else 0)) = (b 6 || decide (m.slot = 0))
    cases b 6 with
    | true => simp [cop]
    | false => rw [bool_iff]; simp [cop]
  have e3 : (!cop .neq m.err (sel b m).err) = (b 3 || zf m 3) := by
    show (!cop .neq m.err (if b 3 = true then m.err else 0)) = (b 3 || decide (m.err = 0))
    cases b 3 with
    | true => simp [cop]
    | false => rw [bool_iff]; simp [cop]
  have e11 : (!cop .neq m.base (sel b m).base) = (b 11 || zf m 11) := by
    show (!cop .neq m.base (if b 11 = true then m.base else 0)) = (b 11 || decide (m.base = 0))
    cases b 11 with
    | true => simp [cop]
    | false => rw [bool_iff]; simp [cop]
  have e2 : (!(!((cop .eql m.op.core (sel b m).op.core) && ((cop .eql m.op.op (sel b m).op.op) && ((cop .eql m.op.part (sel b m).op.part) && true))))) = (b 2 || zf m 2) := by
    rw [Bool.not_not]
    show ((cop .eql m.op.core (if b 2 = true then m.op else zid).core) && ((cop .eql m.op.op (if b 2 = true then m.op else zid).op) && ((cop .eql m.op.part (if b 2 = true then m.op else zid).part) && true))) = (b 2 || decide (m.op = zid))
    cases b 2 with
    | true => simp [cop]
    | false => rw [bool_iff, Bool.false_or, decide_eq_true_eq]; exact zid_eqb _ _ _
  have e4 : (!(!(m.settled == (sel b m).settled))) = (b 4 || zf m 4) := by
    show (!(!(m.settled == (if b 4 = true then m.settled else false)))) = (b 4 || !m.settled)
    cases b 4 <;> cases m.settled <;> rfl
  have e1 : sameR m.req (sel b m).req = (b 1 || zf m 1) := by
    show sameR m.req (if b 1 = true then m.req else noReq) = (b 1 || zReq m.req)
    cases b 1 with
    | true => exact sameR_refl _
    | false => exact sameR_zero _
  have e7 : decide (m.ids = (sel b m).ids) = (b 7 || zf m 7) := by
    show decide (m.ids = (if b 7 = true then m.ids else [])) = (b 7 || decide (m.ids.length = 0))
    cases b 7 <;> simp
  have e5 : sameL sameN m.nodes (sel b m).nodes = (b 5 || zf m 5) := by
    show sameL sameN m.nodes (if b 5 = true then m.nodes else []) = (b 5 || decide (m.nodes.length = 0))
    cases b 5 with
    | true => exact sameL_refl _ sameN_refl _
    | false => exact sameL_nil _ _
  have e9 : sameL sameI m.cores (sel b m).cores = (b 9 || zf m 9) := by
    show sameL sameI m.cores (if b 9 = true then m.cores else []) = (b 9 || decide (m.cores.length = 0))
    cases b 9 with
    | true => exact sameL_refl _ (fun a => by simp [sameI]) _
    | false => exact sameL_nil _ _
  have e14 : sameL sameMv m.moves (sel b m).moves = (b 14 || zf m 14) := by
    show sameL sameMv m.moves (if b 14 = true then m.moves else []) = (b 14 || decide (m.moves.length = 0))
    cases b 14 with
    | true => exact sameL_refl _ (fun a => by simp [sameMv]) _
    | false => exact sameL_nil _ _
  have e12 : sameV m.next (sel b m).next = (b 12 || zf m 12) := by
    show sameV m.next (if b 12 = true then m.next else noView) = (b 12 || zView m.next)
    cases b 12 with
    | true => exact sameV_refl _
    | false => exact sameV_zero _
  have e13 : sameSt m.state (sel b m).state = (b 13 || zf m 13) := by
    show sameSt m.state (if b 13 = true then m.state else noState) = (b 13 || zState m.state)
    cases b 13 with
    | true => exact sameSt_refl _
    | false => exact sameSt_zero _
  have e10 : sameRep m.report (sel b m).report = (b 10 || zf m 10) := by
    show sameRep m.report (if b 10 = true then m.report else noReport) = (b 10 || zReport m.report)
    cases b 10 with
    | true => exact sameRep_refl _
    | false => exact sameRep_zero _
  unfold sameM
  rw [k0, k1, k2, k3, e8, e0, e6, e2, e3, e4, e11, e1, e7, e5, e9, e14, e12, e13, e10]
  show _ = ((b 0 || zf m 0) && ((b 1 || zf m 1) && ((b 2 || zf m 2) && ((b 3 || zf m 3) && ((b 4 || zf m 4) && ((b 5 || zf m 5) && ((b 6 || zf m 6) && ((b 7 || zf m 7) && ((b 8 || zf m 8) && ((b 9 || zf m 9) && ((b 10 || zf m 10) && ((b 11 || zf m 11) && ((b 12 || zf m 12) && ((b 13 || zf m 13) && ((b 14 || zf m 14) && true)))))))))))))))
  simp only [Bool.true_and, Bool.and_true]
  ac_rfl

theorem idsOk_f : idsOk false = idOk := by funext i; simp [idsOk]

theorem rest_at {n : Nat} {m : Msg} (h : rest n m = true) (g : Nat) (hg : g < 15) (hc : (kf n).contains g = false) : zf m g = true := by
  have this : ((kf n).contains g || zf m g) = true := (List.all_eq_true.1 h) g (List.mem_range.2 hg)
  rwa [hc, Bool.false_or] at this

theorem nodes_none {m : Msg} (h : zf m 5 = true) : m.nodes.all nodeOk = true := by
  have h0 : m.nodes.length = 0 := of_decide_eq_true h
  rw [List.length_eq_zero_iff.1 h0]; rfl

theorem reg_none {m : Msg} (h : zf m 0 = true) : regOk m.region = true := by
  have h0 : m.region = 0 := of_decide_eq_true h
  rw [h0]; rfl

theorem s10k1 (m : Msg) (h : m.Fits) (hk : m.kind = 1) (h1 : numOk m.view = true) (h2 : coreOk m.frm = true) (h3 : coreOk m.to = true) : G10 m = some ((kf 1).all (fieldOk m) && rest 1 m) := by
  have L : ∀ ok, G10L m m.kind m.view m.frm m.to 0 m.region 0 0 0 0 0 false m.req.id.core m.req.id.op m.req.id.part m.req.call.kind m.req.call.slot m.req.call.dest m.req.call.core m.req.call.mask m.req.call.object m.req.call.bits m.req.call.level m.req.call.offset m.req.call.count m.req.call.index m.req.call.addr m.req.region m.req.width m.req.src.id.core m.req.src.id.op m.req.src.id.part (idCells m.req.src.path) m.req.src.cap.kind m.req.src.cap.base m.req.src.cap.bits m.req.src.cap.rights m.req.src.cap.width m.req.src.cap.level m.req.src.cap.device ([] : LL) ([] : LL) ([] : LL) ([] : LL) 0 0 ([] : LL) ([] : LL) ([] : LL) ([] : LL) ([] : LL) ([] : LL) ([] : LL) ([] : LL) 0 0 ([] : LL) ([] : LL) ([] : LL) ([] : LL) ([] : LL) ([] : LL) ([] : LL) ([] : LL) false 0 ([] : LL) ([] : LL) ([] : LL) ([] : LL) ([] : LL) ([] : LL) ([] : LL) ([] : LL) ok 0 = some (ok && (m.nodes.all nodeOk && (regOk m.region && rest 1 m))) := fun ok => by
    have q := l10 m (sel (fun g => (kf 1).contains g) m) h (sel_fits _ h) m.nodes.length 0 FUEL ok (by omega) (by have := fuel63 h.nodes; omega)
    rw [List.drop_zero, sel_same] at q
    exact q
  unfold G10
  rw [g10_eq, if_neg (show ¬ (cop .lss m.kind 1) = true by simp only [CQ]; omega), if_neg (show ¬ (cop .gtr m.kind 17) = true by simp only [CQ]; omega), s36, Option.bind_some, h1, s37, Option.bind_some, h2, s37, Option.bind_some, h3]
  rw [if_neg (show ¬ (!true) = true by decide), if_neg (show ¬ (!true) = true by decide), if_neg (show ¬ (!true) = true by decide)]
  rw [if_pos (keq hk)]
  simp only [L, s13 _ h.req, Option.bind_some]
  cases hr : rest 1 m with
  | false =>
    simp only [Bool.and_false]
    repeat' split
    all_goals rfl
  | true =>
    have hn := nodes_none (rest_at hr 5 (by omega) rfl)
    show _ = some ((fieldOk m 0 && (fieldOk m 1 && true)) && true)
    repeat' split
    all_goals (refine congrArg some ?_; rw [bool_iff]; simp only [fieldOk, slotOk, CQ] at * <;> grind)

theorem s10k2 (m : Msg) (h : m.Fits) (hk : m.kind = 2) (h1 : numOk m.view = true) (h2 : coreOk m.frm = true) (h3 : coreOk m.to = true) : G10 m = some ((kf 2).all (fieldOk m) && rest 2 m) := by
  have L : ∀ ok, G10L m m.kind m.view m.frm m.to 0 m.region 0 m.op.core m.op.op m.op.part m.err m.settled 0 0 0 0 0 0 0 0 0 0 0 0 0 0 0 0 0 0 0 0 ([] : LL) 0 0 0 0 0 0 false ([] : LL) (m.nodes.map nodec) ([] : LL) ([] : LL) 0 0 ([] : LL) ([] : LL) ([] : LL) ([] : LL) ([] : LL) ([] : LL) ([] : LL) ([] : LL) 0 0 ([] : LL) ([] : LL) ([] : LL) ([] : LL) ([] : LL) ([] : LL) ([] : LL) ([] : LL) false 0 ([] : LL) ([] : LL) ([] : LL) ([] : LL) ([] : LL) ([] : LL) ([] : LL) ([] : LL) ok 0 = some (ok && (m.nodes.all nodeOk && (regOk m.region && rest 2 m))) := fun ok => by
    have q := l10 m (sel (fun g => (kf 2).contains g) m) h (sel_fits _ h) m.nodes.length 0 FUEL ok (by omega) (by have := fuel63 h.nodes; omega)
    rw [List.drop_zero, sel_same] at q
    exact q
  unfold G10
  rw [g10_eq, if_neg (show ¬ (cop .lss m.kind 1) = true by simp only [CQ]; omega), if_neg (show ¬ (cop .gtr m.kind 17) = true by simp only [CQ]; omega), s36, Option.bind_some, h1, s37, Option.bind_some, h2, s37, Option.bind_some, h3]
  rw [if_neg (show ¬ (!true) = true by decide), if_neg (show ¬ (!true) = true by decide), if_neg (show ¬ (!true) = true by decide)]
  rw [if_neg (kne (show m.kind ≠ 1 by omega))]
  rw [if_pos (keq hk)]
  simp only [L, s38, s39, List.length_map, Option.bind_some]
  cases hr : rest 2 m with
  | false =>
    simp only [Bool.and_false]
    repeat' split
    all_goals rfl
  | true =>
    show _ = some ((fieldOk m 0 && (fieldOk m 2 && (fieldOk m 3 && (fieldOk m 4 && (fieldOk m 5 && true))))) && true)
    repeat' split
    all_goals (refine congrArg some ?_; rw [bool_iff]; simp only [fieldOk, slotOk, CQ] at * <;> grind)

theorem s10k3 (m : Msg) (h : m.Fits) (hk : m.kind = 3) (h1 : numOk m.view = true) (h2 : coreOk m.frm = true) (h3 : coreOk m.to = true) : G10 m = some ((kf 3).all (fieldOk m) && rest 3 m) := by
  have L : ∀ ok, G10L m m.kind m.view m.frm m.to 0 m.region 0 m.op.core m.op.op m.op.part 0 false 0 0 0 0 0 0 0 0 0 0 0 0 0 0 0 0 0 0 0 0 ([] : LL) 0 0 0 0 0 0 false ([] : LL) ([] : LL) ([] : LL) ([] : LL) 0 0 ([] : LL) ([] : LL) ([] : LL) ([] : LL) ([] : LL) ([] : LL) ([] : LL) ([] : LL) 0 0 ([] : LL) ([] : LL) ([] : LL) ([] : LL) ([] : LL) ([] : LL) ([] : LL) ([] : LL) false 0 ([] : LL) ([] : LL) ([] : LL) ([] : LL) ([] : LL) ([] : LL) ([] : LL) ([] : LL) ok 0 = some (ok && (m.nodes.all nodeOk && (regOk m.region && rest 3 m))) := fun ok => by
    have q := l10 m (sel (fun g => (kf 3).contains g) m) h (sel_fits _ h) m.nodes.length 0 FUEL ok (by omega) (by have := fuel63 h.nodes; omega)
    rw [List.drop_zero, sel_same] at q
    exact q
  unfold G10
  rw [g10_eq, if_neg (show ¬ (cop .lss m.kind 1) = true by simp only [CQ]; omega), if_neg (show ¬ (cop .gtr m.kind 17) = true by simp only [CQ]; omega), s36, Option.bind_some, h1, s37, Option.bind_some, h2, s37, Option.bind_some, h3]
  rw [if_neg (show ¬ (!true) = true by decide), if_neg (show ¬ (!true) = true by decide), if_neg (show ¬ (!true) = true by decide)]
  rw [if_neg (kne (show m.kind ≠ 1 by omega))]
  rw [if_neg (kne (show m.kind ≠ 2 by omega))]
  rw [if_neg (kne (show m.kind ≠ 4 by omega))]
  rw [if_neg (kne (show m.kind ≠ 5 by omega))]
  rw [if_neg (kne (show m.kind ≠ 6 by omega))]
  rw [if_neg (kne (show m.kind ≠ 12 by omega))]
  rw [if_neg (kne (show m.kind ≠ 13 by omega))]
  rw [if_neg (kne (show m.kind ≠ 14 by omega))]
  rw [if_neg (kne (show m.kind ≠ 15 by omega))]
  rw [if_neg (kne (show m.kind ≠ 16 by omega))]
  rw [if_neg (kne (show m.kind ≠ 17 by omega))]
  simp only [L, s38, Option.bind_some]
  cases hr : rest 3 m with
  | false =>
    simp only [Bool.and_false]
    repeat' split
    all_goals rfl
  | true =>
    have hn := nodes_none (rest_at hr 5 (by omega) rfl)
    show _ = some ((fieldOk m 0 && (fieldOk m 2 && true)) && true)
    repeat' split
    all_goals (refine congrArg some ?_; rw [bool_iff]; simp only [fieldOk, slotOk, CQ] at * <;> grind)

theorem s10k4 (m : Msg) (h : m.Fits) (hk : m.kind = 4) (h1 : numOk m.view = true) (h2 : coreOk m.frm = true) (h3 : coreOk m.to = true) : G10 m = some ((kf 4).all (fieldOk m) && rest 4 m) := by
  have L : ∀ ok, G10L m m.kind m.view m.frm m.to 0 m.region m.slot m.op.core m.op.op m.op.part 0 false 0 0 0 0 0 0 0 0 0 0 0 0 0 0 0 0 0 0 0 0 ([] : LL) 0 0 0 0 0 0 false ([] : LL) (m.nodes.map nodec) ([] : LL) ([] : LL) 0 0 ([] : LL) ([] : LL) ([] : LL) ([] : LL) ([] : LL) ([] : LL) ([] : LL) ([] : LL) 0 0 ([] : LL) ([] : LL) ([] : LL) ([] : LL) ([] : LL) ([] : LL) ([] : LL) ([] : LL) false 0 ([] : LL) ([] : LL) ([] : LL) ([] : LL) ([] : LL) ([] : LL) ([] : LL) ([] : LL) ok 0 = some (ok && (m.nodes.all nodeOk && (regOk m.region && rest 4 m))) := fun ok => by
    have q := l10 m (sel (fun g => (kf 4).contains g) m) h (sel_fits _ h) m.nodes.length 0 FUEL ok (by omega) (by have := fuel63 h.nodes; omega)
    rw [List.drop_zero, sel_same] at q
    exact q
  unfold G10
  rw [g10_eq, if_neg (show ¬ (cop .lss m.kind 1) = true by simp only [CQ]; omega), if_neg (show ¬ (cop .gtr m.kind 17) = true by simp only [CQ]; omega), s36, Option.bind_some, h1, s37, Option.bind_some, h2, s37, Option.bind_some, h3]
  rw [if_neg (show ¬ (!true) = true by decide), if_neg (show ¬ (!true) = true by decide), if_neg (show ¬ (!true) = true by decide)]
  rw [if_neg (kne (show m.kind ≠ 1 by omega))]
  rw [if_neg (kne (show m.kind ≠ 2 by omega))]
  rw [if_pos (keq hk)]
  simp only [L, s38, List.length_map, Option.bind_some]
  cases hr : rest 4 m with
  | false =>
    simp only [Bool.and_false]
    repeat' split
    all_goals rfl
  | true =>
    show _ = some ((fieldOk m 0 && (fieldOk m 2 && (fieldOk m 6 && (fieldOk m 5 && true)))) && true)
    repeat' split
    all_goals (refine congrArg some ?_; rw [bool_iff]; simp only [fieldOk, slotOk, CQ] at * <;> grind)

theorem s10k5 (m : Msg) (h : m.Fits) (hk : m.kind = 5) (h1 : numOk m.view = true) (h2 : coreOk m.frm = true) (h3 : coreOk m.to = true) : G10 m = some ((kf 5).all (fieldOk m) && rest 5 m) := by
  have L : ∀ ok, G10L m m.kind m.view m.frm m.to 0 m.region 0 m.op.core m.op.op m.op.part m.err false 0 0 0 0 0 0 0 0 0 0 0 0 0 0 0 0 0 0 0 0 ([] : LL) 0 0 0 0 0 0 false ([] : LL) ([] : LL) ([] : LL) ([] : LL) 0 0 ([] : LL) ([] : LL) ([] : LL) ([] : LL) ([] : LL) ([] : LL) ([] : LL) ([] : LL) 0 0 ([] : LL) ([] : LL) ([] : LL) ([] : LL) ([] : LL) ([] : LL) ([] : LL) ([] : LL) false 0 ([] : LL) ([] : LL) ([] : LL) ([] : LL) ([] : LL) ([] : LL) ([] : LL) ([] : LL) ok 0 = some (ok && (m.nodes.all nodeOk && (regOk m.region && rest 5 m))) := fun ok => by
    have q := l10 m (sel (fun g => (kf 5).contains g) m) h (sel_fits _ h) m.nodes.length 0 FUEL ok (by omega) (by have := fuel63 h.nodes; omega)
    rw [List.drop_zero, sel_same] at q
    exact q
  unfold G10
  rw [g10_eq, if_neg (show ¬ (cop .lss m.kind 1) = true by simp only [CQ]; omega), if_neg (show ¬ (cop .gtr m.kind 17) = true by simp only [CQ]; omega), s36, Option.bind_some, h1, s37, Option.bind_some, h2, s37, Option.bind_some, h3]
  rw [if_neg (show ¬ (!true) = true by decide), if_neg (show ¬ (!true) = true by decide), if_neg (show ¬ (!true) = true by decide)]
  rw [if_neg (kne (show m.kind ≠ 1 by omega))]
  rw [if_neg (kne (show m.kind ≠ 2 by omega))]
  rw [if_neg (kne (show m.kind ≠ 4 by omega))]
  rw [if_pos (keq hk)]
  simp only [L, s38, s39, Option.bind_some]
  cases hr : rest 5 m with
  | false =>
    simp only [Bool.and_false]
    repeat' split
    all_goals rfl
  | true =>
    have hn := nodes_none (rest_at hr 5 (by omega) rfl)
    show _ = some ((fieldOk m 0 && (fieldOk m 2 && (fieldOk m 3 && true))) && true)
    repeat' split
    all_goals (refine congrArg some ?_; rw [bool_iff]; simp only [fieldOk, slotOk, CQ] at * <;> grind)

theorem s10k6 (m : Msg) (h : m.Fits) (hk : m.kind = 6) (h1 : numOk m.view = true) (h2 : coreOk m.frm = true) (h3 : coreOk m.to = true) : G10 m = some ((kf 6).all (fieldOk m) && rest 6 m) := by
  have L : ∀ ok, G10L m m.kind m.view m.frm m.to 0 m.region 0 m.op.core m.op.op m.op.part 0 false 0 0 0 0 0 0 0 0 0 0 0 0 0 0 0 0 0 0 0 0 ([] : LL) 0 0 0 0 0 0 false (idCells m.ids) ([] : LL) ([] : LL) ([] : LL) 0 0 ([] : LL) ([] : LL) ([] : LL) ([] : LL) ([] : LL) ([] : LL) ([] : LL) ([] : LL) 0 0 ([] : LL) ([] : LL) ([] : LL) ([] : LL) ([] : LL) ([] : LL) ([] : LL) ([] : LL) false 0 ([] : LL) ([] : LL) ([] : LL) ([] : LL) ([] : LL) ([] : LL) ([] : LL) ([] : LL) ok 0 = some (ok && (m.nodes.all nodeOk && (regOk m.region && rest 6 m))) := fun ok => by
    have q := l10 m (sel (fun g => (kf 6).contains g) m) h (sel_fits _ h) m.nodes.length 0 FUEL ok (by omega) (by have := fuel63 h.nodes; omega)
    rw [List.drop_zero, sel_same] at q
    exact q
  unfold G10
  rw [g10_eq, if_neg (show ¬ (cop .lss m.kind 1) = true by simp only [CQ]; omega), if_neg (show ¬ (cop .gtr m.kind 17) = true by simp only [CQ]; omega), s36, Option.bind_some, h1, s37, Option.bind_some, h2, s37, Option.bind_some, h3]
  rw [if_neg (show ¬ (!true) = true by decide), if_neg (show ¬ (!true) = true by decide), if_neg (show ¬ (!true) = true by decide)]
  rw [if_neg (kne (show m.kind ≠ 1 by omega))]
  rw [if_neg (kne (show m.kind ≠ 2 by omega))]
  rw [if_neg (kne (show m.kind ≠ 4 by omega))]
  rw [if_neg (kne (show m.kind ≠ 5 by omega))]
  rw [if_pos (keq hk)]
  simp only [L, s38, s40 _ _ h.ids, ids_len, idsOk_f, Option.bind_some]
  cases hr : rest 6 m with
  | false =>
    simp only [Bool.and_false]
    repeat' split
    all_goals rfl
  | true =>
    have hn := nodes_none (rest_at hr 5 (by omega) rfl)
    show _ = some ((fieldOk m 0 && (fieldOk m 2 && (fieldOk m 7 && true))) && true)
    repeat' split
    all_goals (refine congrArg some ?_; rw [bool_iff]; simp only [fieldOk, slotOk, CQ] at * <;> grind)

theorem s10k7 (m : Msg) (h : m.Fits) (hk : m.kind = 7) (h1 : numOk m.view = true) (h2 : coreOk m.frm = true) (h3 : coreOk m.to = true) : G10 m = some ((kf 7).all (fieldOk m) && rest 7 m) := by
  have L : ∀ ok, G10L m m.kind m.view m.frm m.to 0 m.region 0 m.op.core m.op.op m.op.part 0 false 0 0 0 0 0 0 0 0 0 0 0 0 0 0 0 0 0 0 0 0 ([] : LL) 0 0 0 0 0 0 false ([] : LL) ([] : LL) ([] : LL) ([] : LL) 0 0 ([] : LL) ([] : LL) ([] : LL) ([] : LL) ([] : LL) ([] : LL) ([] : LL) ([] : LL) 0 0 ([] : LL) ([] : LL) ([] : LL) ([] : LL) ([] : LL) ([] : LL) ([] : LL) ([] : LL) false 0 ([] : LL) ([] : LL) ([] : LL) ([] : LL) ([] : LL) ([] : LL) ([] : LL) ([] : LL) ok 0 = some (ok && (m.nodes.all nodeOk && (regOk m.region && rest 7 m))) := fun ok => by
    have q := l10 m (sel (fun g => (kf 7).contains g) m) h (sel_fits _ h) m.nodes.length 0 FUEL ok (by omega) (by have := fuel63 h.nodes; omega)
    rw [List.drop_zero, sel_same] at q
    exact q
  unfold G10
  rw [g10_eq, if_neg (show ¬ (cop .lss m.kind 1) = true by simp only [CQ]; omega), if_neg (show ¬ (cop .gtr m.kind 17) = true by simp only [CQ]; omega), s36, Option.bind_some, h1, s37, Option.bind_some, h2, s37, Option.bind_some, h3]
  rw [if_neg (show ¬ (!true) = true by decide), if_neg (show ¬ (!true) = true by decide), if_neg (show ¬ (!true) = true by decide)]
  rw [if_neg (kne (show m.kind ≠ 1 by omega))]
  rw [if_neg (kne (show m.kind ≠ 2 by omega))]
  rw [if_neg (kne (show m.kind ≠ 4 by omega))]
  rw [if_neg (kne (show m.kind ≠ 5 by omega))]
  rw [if_neg (kne (show m.kind ≠ 6 by omega))]
  rw [if_neg (kne (show m.kind ≠ 12 by omega))]
  rw [if_neg (kne (show m.kind ≠ 13 by omega))]
  rw [if_neg (kne (show m.kind ≠ 14 by omega))]
  rw [if_neg (kne (show m.kind ≠ 15 by omega))]
  rw [if_neg (kne (show m.kind ≠ 16 by omega))]
  rw [if_neg (kne (show m.kind ≠ 17 by omega))]
  simp only [L, s38, Option.bind_some]
  cases hr : rest 7 m with
  | false =>
    simp only [Bool.and_false]
    repeat' split
    all_goals rfl
  | true =>
    have hn := nodes_none (rest_at hr 5 (by omega) rfl)
    show _ = some ((fieldOk m 0 && (fieldOk m 2 && true)) && true)
    repeat' split
    all_goals (refine congrArg some ?_; rw [bool_iff]; simp only [fieldOk, slotOk, CQ] at * <;> grind)

theorem s10k8 (m : Msg) (h : m.Fits) (hk : m.kind = 8) (h1 : numOk m.view = true) (h2 : coreOk m.frm = true) (h3 : coreOk m.to = true) : G10 m = some ((kf 8).all (fieldOk m) && rest 8 m) := by
  have L : ∀ ok, G10L m m.kind m.view m.frm m.to 0 m.region 0 m.op.core m.op.op m.op.part 0 false 0 0 0 0 0 0 0 0 0 0 0 0 0 0 0 0 0 0 0 0 ([] : LL) 0 0 0 0 0 0 false ([] : LL) ([] : LL) ([] : LL) ([] : LL) 0 0 ([] : LL) ([] : LL) ([] : LL) ([] : LL) ([] : LL) ([] : LL) ([] : LL) ([] : LL) 0 0 ([] : LL) ([] : LL) ([] : LL) ([] : LL) ([] : LL) ([] : LL) ([] : LL) ([] : LL) false 0 ([] : LL) ([] : LL) ([] : LL) ([] : LL) ([] : LL) ([] : LL) ([] : LL) ([] : LL) ok 0 = some (ok && (m.nodes.all nodeOk && (regOk m.region && rest 8 m))) := fun ok => by
    have q := l10 m (sel (fun g => (kf 8).contains g) m) h (sel_fits _ h) m.nodes.length 0 FUEL ok (by omega) (by have := fuel63 h.nodes; omega)
    rw [List.drop_zero, sel_same] at q
    exact q
  unfold G10
  rw [g10_eq, if_neg (show ¬ (cop .lss m.kind 1) = true by simp only [CQ]; omega), if_neg (show ¬ (cop .gtr m.kind 17) = true by simp only [CQ]; omega), s36, Option.bind_some, h1, s37, Option.bind_some, h2, s37, Option.bind_some, h3]
  rw [if_neg (show ¬ (!true) = true by decide), if_neg (show ¬ (!true) = true by decide), if_neg (show ¬ (!true) = true by decide)]
  rw [if_neg (kne (show m.kind ≠ 1 by omega))]
  rw [if_neg (kne (show m.kind ≠ 2 by omega))]
  rw [if_neg (kne (show m.kind ≠ 4 by omega))]
  rw [if_neg (kne (show m.kind ≠ 5 by omega))]
  rw [if_neg (kne (show m.kind ≠ 6 by omega))]
  rw [if_neg (kne (show m.kind ≠ 12 by omega))]
  rw [if_neg (kne (show m.kind ≠ 13 by omega))]
  rw [if_neg (kne (show m.kind ≠ 14 by omega))]
  rw [if_neg (kne (show m.kind ≠ 15 by omega))]
  rw [if_neg (kne (show m.kind ≠ 16 by omega))]
  rw [if_neg (kne (show m.kind ≠ 17 by omega))]
  simp only [L, s38, Option.bind_some]
  cases hr : rest 8 m with
  | false =>
    simp only [Bool.and_false]
    repeat' split
    all_goals rfl
  | true =>
    have hn := nodes_none (rest_at hr 5 (by omega) rfl)
    show _ = some ((fieldOk m 0 && (fieldOk m 2 && true)) && true)
    repeat' split
    all_goals (refine congrArg some ?_; rw [bool_iff]; simp only [fieldOk, slotOk, CQ] at * <;> grind)

theorem s10k9 (m : Msg) (h : m.Fits) (hk : m.kind = 9) (h1 : numOk m.view = true) (h2 : coreOk m.frm = true) (h3 : coreOk m.to = true) : G10 m = some ((kf 9).all (fieldOk m) && rest 9 m) := by
  have L : ∀ ok, G10L m m.kind m.view m.frm m.to 0 m.region 0 m.op.core m.op.op m.op.part 0 false 0 0 0 0 0 0 0 0 0 0 0 0 0 0 0 0 0 0 0 0 ([] : LL) 0 0 0 0 0 0 false ([] : LL) ([] : LL) ([] : LL) ([] : LL) 0 0 ([] : LL) ([] : LL) ([] : LL) ([] : LL) ([] : LL) ([] : LL) ([] : LL) ([] : LL) 0 0 ([] : LL) ([] : LL) ([] : LL) ([] : LL) ([] : LL) ([] : LL) ([] : LL) ([] : LL) false 0 ([] : LL) ([] : LL) ([] : LL) ([] : LL) ([] : LL) ([] : LL) ([] : LL) ([] : LL) ok 0 = some (ok && (m.nodes.all nodeOk && (regOk m.region && rest 9 m))) := fun ok => by
    have q := l10 m (sel (fun g => (kf 9).contains g) m) h (sel_fits _ h) m.nodes.length 0 FUEL ok (by omega) (by have := fuel63 h.nodes; omega)
    rw [List.drop_zero, sel_same] at q
    exact q
  unfold G10
  rw [g10_eq, if_neg (show ¬ (cop .lss m.kind 1) = true by simp only [CQ]; omega), if_neg (show ¬ (cop .gtr m.kind 17) = true by simp only [CQ]; omega), s36, Option.bind_some, h1, s37, Option.bind_some, h2, s37, Option.bind_some, h3]
  rw [if_neg (show ¬ (!true) = true by decide), if_neg (show ¬ (!true) = true by decide), if_neg (show ¬ (!true) = true by decide)]
  rw [if_neg (kne (show m.kind ≠ 1 by omega))]
  rw [if_neg (kne (show m.kind ≠ 2 by omega))]
  rw [if_neg (kne (show m.kind ≠ 4 by omega))]
  rw [if_neg (kne (show m.kind ≠ 5 by omega))]
  rw [if_neg (kne (show m.kind ≠ 6 by omega))]
  rw [if_neg (kne (show m.kind ≠ 12 by omega))]
  rw [if_neg (kne (show m.kind ≠ 13 by omega))]
  rw [if_neg (kne (show m.kind ≠ 14 by omega))]
  rw [if_neg (kne (show m.kind ≠ 15 by omega))]
  rw [if_neg (kne (show m.kind ≠ 16 by omega))]
  rw [if_neg (kne (show m.kind ≠ 17 by omega))]
  simp only [L, s38, Option.bind_some]
  cases hr : rest 9 m with
  | false =>
    simp only [Bool.and_false]
    repeat' split
    all_goals rfl
  | true =>
    have hn := nodes_none (rest_at hr 5 (by omega) rfl)
    show _ = some ((fieldOk m 0 && (fieldOk m 2 && true)) && true)
    repeat' split
    all_goals (refine congrArg some ?_; rw [bool_iff]; simp only [fieldOk, slotOk, CQ] at * <;> grind)

theorem s10k10 (m : Msg) (h : m.Fits) (hk : m.kind = 10) (h1 : numOk m.view = true) (h2 : coreOk m.frm = true) (h3 : coreOk m.to = true) : G10 m = some ((kf 10).all (fieldOk m) && rest 10 m) := by
  have L : ∀ ok, G10L m m.kind m.view m.frm m.to 0 m.region 0 m.op.core m.op.op m.op.part 0 false 0 0 0 0 0 0 0 0 0 0 0 0 0 0 0 0 0 0 0 0 ([] : LL) 0 0 0 0 0 0 false ([] : LL) ([] : LL) ([] : LL) ([] : LL) 0 0 ([] : LL) ([] : LL) ([] : LL) ([] : LL) ([] : LL) ([] : LL) ([] : LL) ([] : LL) 0 0 ([] : LL) ([] : LL) ([] : LL) ([] : LL) ([] : LL) ([] : LL) ([] : LL) ([] : LL) false 0 ([] : LL) ([] : LL) ([] : LL) ([] : LL) ([] : LL) ([] : LL) ([] : LL) ([] : LL) ok 0 = some (ok && (m.nodes.all nodeOk && (regOk m.region && rest 10 m))) := fun ok => by
    have q := l10 m (sel (fun g => (kf 10).contains g) m) h (sel_fits _ h) m.nodes.length 0 FUEL ok (by omega) (by have := fuel63 h.nodes; omega)
    rw [List.drop_zero, sel_same] at q
    exact q
  unfold G10
  rw [g10_eq, if_neg (show ¬ (cop .lss m.kind 1) = true by simp only [CQ]; omega), if_neg (show ¬ (cop .gtr m.kind 17) = true by simp only [CQ]; omega), s36, Option.bind_some, h1, s37, Option.bind_some, h2, s37, Option.bind_some, h3]
  rw [if_neg (show ¬ (!true) = true by decide), if_neg (show ¬ (!true) = true by decide), if_neg (show ¬ (!true) = true by decide)]
  rw [if_neg (kne (show m.kind ≠ 1 by omega))]
  rw [if_neg (kne (show m.kind ≠ 2 by omega))]
  rw [if_neg (kne (show m.kind ≠ 4 by omega))]
  rw [if_neg (kne (show m.kind ≠ 5 by omega))]
  rw [if_neg (kne (show m.kind ≠ 6 by omega))]
  rw [if_neg (kne (show m.kind ≠ 12 by omega))]
  rw [if_neg (kne (show m.kind ≠ 13 by omega))]
  rw [if_neg (kne (show m.kind ≠ 14 by omega))]
  rw [if_neg (kne (show m.kind ≠ 15 by omega))]
  rw [if_neg (kne (show m.kind ≠ 16 by omega))]
  rw [if_neg (kne (show m.kind ≠ 17 by omega))]
  simp only [L, s38, Option.bind_some]
  cases hr : rest 10 m with
  | false =>
    simp only [Bool.and_false]
    repeat' split
    all_goals rfl
  | true =>
    have hn := nodes_none (rest_at hr 5 (by omega) rfl)
    show _ = some ((fieldOk m 0 && (fieldOk m 2 && true)) && true)
    repeat' split
    all_goals (refine congrArg some ?_; rw [bool_iff]; simp only [fieldOk, slotOk, CQ] at * <;> grind)

theorem s10k11 (m : Msg) (h : m.Fits) (hk : m.kind = 11) (h1 : numOk m.view = true) (h2 : coreOk m.frm = true) (h3 : coreOk m.to = true) : G10 m = some ((kf 11).all (fieldOk m) && rest 11 m) := by
  have L : ∀ ok, G10L m m.kind m.view m.frm m.to 0 m.region 0 m.op.core m.op.op m.op.part 0 false 0 0 0 0 0 0 0 0 0 0 0 0 0 0 0 0 0 0 0 0 ([] : LL) 0 0 0 0 0 0 false ([] : LL) ([] : LL) ([] : LL) ([] : LL) 0 0 ([] : LL) ([] : LL) ([] : LL) ([] : LL) ([] : LL) ([] : LL) ([] : LL) ([] : LL) 0 0 ([] : LL) ([] : LL) ([] : LL) ([] : LL) ([] : LL) ([] : LL) ([] : LL) ([] : LL) false 0 ([] : LL) ([] : LL) ([] : LL) ([] : LL) ([] : LL) ([] : LL) ([] : LL) ([] : LL) ok 0 = some (ok && (m.nodes.all nodeOk && (regOk m.region && rest 11 m))) := fun ok => by
    have q := l10 m (sel (fun g => (kf 11).contains g) m) h (sel_fits _ h) m.nodes.length 0 FUEL ok (by omega) (by have := fuel63 h.nodes; omega)
    rw [List.drop_zero, sel_same] at q
    exact q
  unfold G10
  rw [g10_eq, if_neg (show ¬ (cop .lss m.kind 1) = true by simp only [CQ]; omega), if_neg (show ¬ (cop .gtr m.kind 17) = true by simp only [CQ]; omega), s36, Option.bind_some, h1, s37, Option.bind_some, h2, s37, Option.bind_some, h3]
  rw [if_neg (show ¬ (!true) = true by decide), if_neg (show ¬ (!true) = true by decide), if_neg (show ¬ (!true) = true by decide)]
  rw [if_neg (kne (show m.kind ≠ 1 by omega))]
  rw [if_neg (kne (show m.kind ≠ 2 by omega))]
  rw [if_neg (kne (show m.kind ≠ 4 by omega))]
  rw [if_neg (kne (show m.kind ≠ 5 by omega))]
  rw [if_neg (kne (show m.kind ≠ 6 by omega))]
  rw [if_neg (kne (show m.kind ≠ 12 by omega))]
  rw [if_neg (kne (show m.kind ≠ 13 by omega))]
  rw [if_neg (kne (show m.kind ≠ 14 by omega))]
  rw [if_neg (kne (show m.kind ≠ 15 by omega))]
  rw [if_neg (kne (show m.kind ≠ 16 by omega))]
  rw [if_neg (kne (show m.kind ≠ 17 by omega))]
  simp only [L, s38, Option.bind_some]
  cases hr : rest 11 m with
  | false =>
    simp only [Bool.and_false]
    repeat' split
    all_goals rfl
  | true =>
    have hn := nodes_none (rest_at hr 5 (by omega) rfl)
    show _ = some ((fieldOk m 0 && (fieldOk m 2 && true)) && true)
    repeat' split
    all_goals (refine congrArg some ?_; rw [bool_iff]; simp only [fieldOk, slotOk, CQ] at * <;> grind)

theorem s10k12 (m : Msg) (h : m.Fits) (hk : m.kind = 12) (h1 : numOk m.view = true) (h2 : coreOk m.frm = true) (h3 : coreOk m.to = true) : G10 m = some ((kf 12).all (fieldOk m) && rest 12 m) := by
  have L : ∀ ok, G10L m m.kind m.view m.frm m.to m.round 0 0 0 0 0 0 false 0 0 0 0 0 0 0 0 0 0 0 0 0 0 0 0 0 0 0 0 ([] : LL) 0 0 0 0 0 0 false ([] : LL) ([] : LL) (intCells m.cores) ([] : LL) 0 0 ([] : LL) ([] : LL) ([] : LL) ([] : LL) ([] : LL) ([] : LL) ([] : LL) ([] : LL) 0 0 ([] : LL) ([] : LL) ([] : LL) ([] : LL) ([] : LL) ([] : LL) ([] : LL) ([] : LL) false 0 ([] : LL) ([] : LL) ([] : LL) ([] : LL) ([] : LL) ([] : LL) ([] : LL) ([] : LL) ok 0 = some (ok && (m.nodes.all nodeOk && (regOk m.region && rest 12 m))) := fun ok => by
    have q := l10 m (sel (fun g => (kf 12).contains g) m) h (sel_fits _ h) m.nodes.length 0 FUEL ok (by omega) (by have := fuel63 h.nodes; omega)
    rw [List.drop_zero, sel_same] at q
    exact q
  unfold G10
  rw [g10_eq, if_neg (show ¬ (cop .lss m.kind 1) = true by simp only [CQ]; omega), if_neg (show ¬ (cop .gtr m.kind 17) = true by simp only [CQ]; omega), s36, Option.bind_some, h1, s37, Option.bind_some, h2, s37, Option.bind_some, h3]
  rw [if_neg (show ¬ (!true) = true by decide), if_neg (show ¬ (!true) = true by decide), if_neg (show ¬ (!true) = true by decide)]
  rw [if_neg (kne (show m.kind ≠ 1 by omega))]
  rw [if_neg (kne (show m.kind ≠ 2 by omega))]
  rw [if_neg (kne (show m.kind ≠ 4 by omega))]
  rw [if_neg (kne (show m.kind ≠ 5 by omega))]
  rw [if_neg (kne (show m.kind ≠ 6 by omega))]
  rw [if_pos (keq hk)]
  simp only [L, s36, s41 _ h.cores, Option.bind_some]
  cases hr : rest 12 m with
  | false =>
    simp only [Bool.and_false]
    repeat' split
    all_goals rfl
  | true =>
    have hn := nodes_none (rest_at hr 5 (by omega) rfl)
    have hg := reg_none (rest_at hr 0 (by omega) rfl)
    show _ = some ((fieldOk m 8 && (fieldOk m 9 && true)) && true)
    repeat' split
    all_goals (refine congrArg some ?_; rw [bool_iff]; simp only [fieldOk, slotOk, CQ] at * <;> grind)

theorem s10k13 (m : Msg) (h : m.Fits) (hk : m.kind = 13) (h1 : numOk m.view = true) (h2 : coreOk m.frm = true) (h3 : coreOk m.to = true) : G10 m = some ((kf 13).all (fieldOk m) && rest 13 m) := by
  have L : ∀ ok, G10L m m.kind m.view m.frm m.to m.round 0 0 0 0 0 0 false 0 0 0 0 0 0 0 0 0 0 0 0 0 0 0 0 0 0 0 0 ([] : LL) 0 0 0 0 0 0 false ([] : LL) ([] : LL) ([] : LL) ([] : LL) 0 0 ([] : LL) ([] : LL) ([] : LL) ([] : LL) ([] : LL) ([] : LL) ([] : LL) ([] : LL) m.report.core m.report.view.number (intCells m.report.view.members) (intCells m.report.view.owners) (m.report.state.slots.map slotc) (m.report.state.pending.map reqc) (m.report.state.marks.map markc) (m.report.state.answers.map ansc) (m.report.state.entries.map entryc) (idCells m.report.state.commits) m.report.ready m.report.next.number (intCells m.report.next.members) (intCells m.report.next.owners) (m.report.proposal.slots.map slotc) (m.report.proposal.pending.map reqc) (m.report.proposal.marks.map markc) (m.report.proposal.answers.map ansc) (m.report.proposal.entries.map entryc) (idCells m.report.proposal.commits) ok 0 = some (ok && (m.nodes.all nodeOk && (regOk m.region && rest 13 m))) := fun ok => by
    have q := l10 m (sel (fun g => (kf 13).contains g) m) h (sel_fits _ h) m.nodes.length 0 FUEL ok (by omega) (by have := fuel63 h.nodes; omega)
    rw [List.drop_zero, sel_same] at q
    exact q
  unfold G10
  rw [g10_eq, if_neg (show ¬ (cop .lss m.kind 1) = true by simp only [CQ]; omega), if_neg (show ¬ (cop .gtr m.kind 17) = true by simp only [CQ]; omega), s36, Option.bind_some, h1, s37, Option.bind_some, h2, s37, Option.bind_some, h3]
  rw [if_neg (show ¬ (!true) = true by decide), if_neg (show ¬ (!true) = true by decide), if_neg (show ¬ (!true) = true by decide)]
  rw [if_neg (kne (show m.kind ≠ 1 by omega))]
  rw [if_neg (kne (show m.kind ≠ 2 by omega))]
  rw [if_neg (kne (show m.kind ≠ 4 by omega))]
  rw [if_neg (kne (show m.kind ≠ 5 by omega))]
  rw [if_neg (kne (show m.kind ≠ 6 by omega))]
  rw [if_neg (kne (show m.kind ≠ 12 by omega))]
  rw [if_pos (keq hk)]
  simp only [L, s36, s42 _ h.report, Option.bind_some]
  cases hr : rest 13 m with
  | false =>
    simp only [Bool.and_false]
    repeat' split
    all_goals rfl
  | true =>
    have hn := nodes_none (rest_at hr 5 (by omega) rfl)
    have hg := reg_none (rest_at hr 0 (by omega) rfl)
    show _ = some ((fieldOk m 8 && (fieldOk m 10 && true)) && true)
    repeat' split
    all_goals (refine congrArg some ?_; rw [bool_iff]; simp only [fieldOk, slotOk, CQ] at * <;> grind)

theorem s10k14 (m : Msg) (h : m.Fits) (hk : m.kind = 14) (h1 : numOk m.view = true) (h2 : coreOk m.frm = true) (h3 : coreOk m.to = true) : G10 m = some ((kf 14).all (fieldOk m) && rest 14 m) := by
  have L : ∀ ok, G10L m m.kind m.view m.frm m.to m.round 0 0 0 0 0 0 false 0 0 0 0 0 0 0 0 0 0 0 0 0 0 0 0 0 0 0 0 ([] : LL) 0 0 0 0 0 0 false ([] : LL) ([] : LL) (intCells m.cores) ([] : LL) m.base m.next.number (intCells m.next.members) (intCells m.next.owners) (m.state.slots.map slotc) (m.state.pending.map reqc) (m.state.marks.map markc) (m.state.answers.map ansc) (m.state.entries.map entryc) (idCells m.state.commits) 0 0 ([] : LL) ([] : LL) ([] : LL) ([] : LL) ([] : LL) ([] : LL) ([] : LL) ([] : LL) false 0 ([] : LL) ([] : LL) ([] : LL) ([] : LL) ([] : LL) ([] : LL) ([] : LL) ([] : LL) ok 0 = some (ok && (m.nodes.all nodeOk && (regOk m.region && rest 14 m))) := fun ok => by
    have q := l10 m (sel (fun g => (kf 14).contains g) m) h (sel_fits _ h) m.nodes.length 0 FUEL ok (by omega) (by have := fuel63 h.nodes; omega)
    rw [List.drop_zero, sel_same] at q
    exact q
  unfold G10
  rw [g10_eq, if_neg (show ¬ (cop .lss m.kind 1) = true by simp only [CQ]; omega), if_neg (show ¬ (cop .gtr m.kind 17) = true by simp only [CQ]; omega), s36, Option.bind_some, h1, s37, Option.bind_some, h2, s37, Option.bind_some, h3]
  rw [if_neg (show ¬ (!true) = true by decide), if_neg (show ¬ (!true) = true by decide), if_neg (show ¬ (!true) = true by decide)]
  rw [if_neg (kne (show m.kind ≠ 1 by omega))]
  rw [if_neg (kne (show m.kind ≠ 2 by omega))]
  rw [if_neg (kne (show m.kind ≠ 4 by omega))]
  rw [if_neg (kne (show m.kind ≠ 5 by omega))]
  rw [if_neg (kne (show m.kind ≠ 6 by omega))]
  rw [if_neg (kne (show m.kind ≠ 12 by omega))]
  rw [if_neg (kne (show m.kind ≠ 13 by omega))]
  rw [if_pos (keq hk)]
  simp only [L, s36, s41 _ h.cores, s43 _ h.next.members h.next.owners, s15 _ h.state, Option.bind_some]
  cases hr : rest 14 m with
  | false =>
    simp only [Bool.and_false]
    repeat' split
    all_goals rfl
  | true =>
    have hn := nodes_none (rest_at hr 5 (by omega) rfl)
    have hg := reg_none (rest_at hr 0 (by omega) rfl)
    show _ = some ((fieldOk m 8 && (fieldOk m 11 && (fieldOk m 9 && (fieldOk m 12 && (fieldOk m 13 && true))))) && true)
    repeat' split
    all_goals (refine congrArg some ?_; rw [bool_iff]; simp only [fieldOk, slotOk, CQ] at * <;> grind)

theorem s10k15 (m : Msg) (h : m.Fits) (hk : m.kind = 15) (h1 : numOk m.view = true) (h2 : coreOk m.frm = true) (h3 : coreOk m.to = true) : G10 m = some ((kf 15).all (fieldOk m) && rest 15 m) := by
  have L : ∀ ok, G10L m m.kind m.view m.frm m.to m.round 0 0 0 0 0 0 false 0 0 0 0 0 0 0 0 0 0 0 0 0 0 0 0 0 0 0 0 ([] : LL) 0 0 0 0 0 0 false ([] : LL) ([] : LL) ([] : LL) ([] : LL) 0 0 ([] : LL) ([] : LL) ([] : LL) ([] : LL) ([] : LL) ([] : LL) ([] : LL) ([] : LL) 0 0 ([] : LL) ([] : LL) ([] : LL) ([] : LL) ([] : LL) ([] : LL) ([] : LL) ([] : LL) false 0 ([] : LL) ([] : LL) ([] : LL) ([] : LL) ([] : LL) ([] : LL) ([] : LL) ([] : LL) ok 0 = some (ok && (m.nodes.all nodeOk && (regOk m.region && rest 15 m))) := fun ok => by
    have q := l10 m (sel (fun g => (kf 15).contains g) m) h (sel_fits _ h) m.nodes.length 0 FUEL ok (by omega) (by have := fuel63 h.nodes; omega)
    rw [List.drop_zero, sel_same] at q
    exact q
  unfold G10
  rw [g10_eq, if_neg (show ¬ (cop .lss m.kind 1) = true by simp only [CQ]; omega), if_neg (show ¬ (cop .gtr m.kind 17) = true by simp only [CQ]; omega), s36, Option.bind_some, h1, s37, Option.bind_some, h2, s37, Option.bind_some, h3]
  rw [if_neg (show ¬ (!true) = true by decide), if_neg (show ¬ (!true) = true by decide), if_neg (show ¬ (!true) = true by decide)]
  rw [if_neg (kne (show m.kind ≠ 1 by omega))]
  rw [if_neg (kne (show m.kind ≠ 2 by omega))]
  rw [if_neg (kne (show m.kind ≠ 4 by omega))]
  rw [if_neg (kne (show m.kind ≠ 5 by omega))]
  rw [if_neg (kne (show m.kind ≠ 6 by omega))]
  rw [if_neg (kne (show m.kind ≠ 12 by omega))]
  rw [if_neg (kne (show m.kind ≠ 13 by omega))]
  rw [if_neg (kne (show m.kind ≠ 14 by omega))]
  rw [if_pos (keq hk)]
  simp only [L, s36, Option.bind_some]
  cases hr : rest 15 m with
  | false =>
    simp only [Bool.and_false]
    repeat' split
    all_goals rfl
  | true =>
    have hn := nodes_none (rest_at hr 5 (by omega) rfl)
    have hg := reg_none (rest_at hr 0 (by omega) rfl)
    show _ = some ((fieldOk m 8 && true) && true)
    repeat' split
    all_goals (refine congrArg some ?_; rw [bool_iff]; simp only [fieldOk, slotOk, CQ] at * <;> grind)

theorem s10k16 (m : Msg) (h : m.Fits) (hk : m.kind = 16) (h1 : numOk m.view = true) (h2 : coreOk m.frm = true) (h3 : coreOk m.to = true) : G10 m = some ((kf 16).all (fieldOk m) && rest 16 m) := by
  have L : ∀ ok, G10L m m.kind m.view m.frm m.to m.round 0 0 0 0 0 0 false 0 0 0 0 0 0 0 0 0 0 0 0 0 0 0 0 0 0 0 0 ([] : LL) 0 0 0 0 0 0 false ([] : LL) ([] : LL) ([] : LL) ([] : LL) 0 0 ([] : LL) ([] : LL) ([] : LL) ([] : LL) ([] : LL) ([] : LL) ([] : LL) ([] : LL) 0 0 ([] : LL) ([] : LL) ([] : LL) ([] : LL) ([] : LL) ([] : LL) ([] : LL) ([] : LL) false 0 ([] : LL) ([] : LL) ([] : LL) ([] : LL) ([] : LL) ([] : LL) ([] : LL) ([] : LL) ok 0 = some (ok && (m.nodes.all nodeOk && (regOk m.region && rest 16 m))) := fun ok => by
    have q := l10 m (sel (fun g => (kf 16).contains g) m) h (sel_fits _ h) m.nodes.length 0 FUEL ok (by omega) (by have := fuel63 h.nodes; omega)
    rw [List.drop_zero, sel_same] at q
    exact q
  unfold G10
  rw [g10_eq, if_neg (show ¬ (cop .lss m.kind 1) = true by simp only [CQ]; omega), if_neg (show ¬ (cop .gtr m.kind 17) = true by simp only [CQ]; omega), s36, Option.bind_some, h1, s37, Option.bind_some, h2, s37, Option.bind_some, h3]
  rw [if_neg (show ¬ (!true) = true by decide), if_neg (show ¬ (!true) = true by decide), if_neg (show ¬ (!true) = true by decide)]
  rw [if_neg (kne (show m.kind ≠ 1 by omega))]
  rw [if_neg (kne (show m.kind ≠ 2 by omega))]
  rw [if_neg (kne (show m.kind ≠ 4 by omega))]
  rw [if_neg (kne (show m.kind ≠ 5 by omega))]
  rw [if_neg (kne (show m.kind ≠ 6 by omega))]
  rw [if_neg (kne (show m.kind ≠ 12 by omega))]
  rw [if_neg (kne (show m.kind ≠ 13 by omega))]
  rw [if_neg (kne (show m.kind ≠ 14 by omega))]
  rw [if_neg (kne (show m.kind ≠ 15 by omega))]
  rw [if_pos (keq hk)]
  simp only [L, s36, Option.bind_some]
  cases hr : rest 16 m with
  | false =>
    simp only [Bool.and_false]
    repeat' split
    all_goals rfl
  | true =>
    have hn := nodes_none (rest_at hr 5 (by omega) rfl)
    have hg := reg_none (rest_at hr 0 (by omega) rfl)
    show _ = some ((fieldOk m 8 && true) && true)
    repeat' split
    all_goals (refine congrArg some ?_; rw [bool_iff]; simp only [fieldOk, slotOk, CQ] at * <;> grind)

theorem s10k17 (m : Msg) (h : m.Fits) (hk : m.kind = 17) (h1 : numOk m.view = true) (h2 : coreOk m.frm = true) (h3 : coreOk m.to = true) : G10 m = some ((kf 17).all (fieldOk m) && rest 17 m) := by
  have L : ∀ ok, G10L m m.kind m.view m.frm m.to 0 0 0 0 0 0 0 false 0 0 0 0 0 0 0 0 0 0 0 0 0 0 0 0 0 0 0 0 ([] : LL) 0 0 0 0 0 0 false ([] : LL) ([] : LL) (intCells m.cores) (m.moves.map movec) 0 0 ([] : LL) ([] : LL) ([] : LL) ([] : LL) ([] : LL) ([] : LL) ([] : LL) ([] : LL) 0 0 ([] : LL) ([] : LL) ([] : LL) ([] : LL) ([] : LL) ([] : LL) ([] : LL) ([] : LL) false 0 ([] : LL) ([] : LL) ([] : LL) ([] : LL) ([] : LL) ([] : LL) ([] : LL) ([] : LL) ok 0 = some (ok && (m.nodes.all nodeOk && (regOk m.region && rest 17 m))) := fun ok => by
    have q := l10 m (sel (fun g => (kf 17).contains g) m) h (sel_fits _ h) m.nodes.length 0 FUEL ok (by omega) (by have := fuel63 h.nodes; omega)
    rw [List.drop_zero, sel_same] at q
    exact q
  unfold G10
  rw [g10_eq, if_neg (show ¬ (cop .lss m.kind 1) = true by simp only [CQ]; omega), if_neg (show ¬ (cop .gtr m.kind 17) = true by simp only [CQ]; omega), s36, Option.bind_some, h1, s37, Option.bind_some, h2, s37, Option.bind_some, h3]
  rw [if_neg (show ¬ (!true) = true by decide), if_neg (show ¬ (!true) = true by decide), if_neg (show ¬ (!true) = true by decide)]
  rw [if_neg (kne (show m.kind ≠ 1 by omega))]
  rw [if_neg (kne (show m.kind ≠ 2 by omega))]
  rw [if_neg (kne (show m.kind ≠ 4 by omega))]
  rw [if_neg (kne (show m.kind ≠ 5 by omega))]
  rw [if_neg (kne (show m.kind ≠ 6 by omega))]
  rw [if_neg (kne (show m.kind ≠ 12 by omega))]
  rw [if_neg (kne (show m.kind ≠ 13 by omega))]
  rw [if_neg (kne (show m.kind ≠ 14 by omega))]
  rw [if_neg (kne (show m.kind ≠ 15 by omega))]
  rw [if_neg (kne (show m.kind ≠ 16 by omega))]
  rw [if_pos (keq hk)]
  simp only [L, s41 _ h.cores, s44 _ h.moves, Option.bind_some]
  cases hr : rest 17 m with
  | false =>
    simp only [Bool.and_false]
    repeat' split
    all_goals rfl
  | true =>
    have hn := nodes_none (rest_at hr 5 (by omega) rfl)
    have hg := reg_none (rest_at hr 0 (by omega) rfl)
    show _ = some ((fieldOk m 9 && (fieldOk m 14 && true)) && true)
    repeat' split
    all_goals (refine congrArg some ?_; rw [bool_iff]; simp only [fieldOk, slotOk, CQ] at * <;> grind)

theorem s10_m (m : Msg) (h : m.Fits) : G10 m = some (validB m) := by
  unfold validB headOk
  by_cases hk : 1 ≤ m.kind ∧ m.kind ≤ 17
  · rw [show kindOk m.kind = true from decide_eq_true hk]
    cases h1 : numOk m.view with
    | false =>
      unfold G10
      rw [g10_eq, if_neg (show ¬ (cop .lss m.kind 1) = true by simp only [CQ]; omega), if_neg (show ¬ (cop .gtr m.kind 17) = true by simp only [CQ]; omega), s36, Option.bind_some, h1]
      rfl
    | true =>
      cases h2 : coreOk m.frm with
      | false =>
        unfold G10
        rw [g10_eq, if_neg (show ¬ (cop .lss m.kind 1) = true by simp only [CQ]; omega), if_neg (show ¬ (cop .gtr m.kind 17) = true by simp only [CQ]; omega), s36, Option.bind_some, h1, s37, Option.bind_some, h2]
        rfl
      | true =>
        cases h3 : coreOk m.to with
        | false =>
          unfold G10
          rw [g10_eq, if_neg (show ¬ (cop .lss m.kind 1) = true by simp only [CQ]; omega), if_neg (show ¬ (cop .gtr m.kind 17) = true by simp only [CQ]; omega), s36, Option.bind_some, h1, s37, Option.bind_some, h2, s37, Option.bind_some, h3]
          rfl
        | true =>
          rcases (show m.kind = 1 ∨ m.kind = 2 ∨ m.kind = 3 ∨ m.kind = 4 ∨ m.kind = 5 ∨ m.kind = 6 ∨ m.kind = 7 ∨ m.kind = 8 ∨ m.kind = 9 ∨ m.kind = 10 ∨ m.kind = 11 ∨ m.kind = 12 ∨ m.kind = 13 ∨ m.kind = 14 ∨ m.kind = 15 ∨ m.kind = 16 ∨ m.kind = 17 by omega) with e | e | e | e | e | e | e | e | e | e | e | e | e | e | e | e | e
          · rw [s10k1 m h e h1 h2 h3, e]; rfl
          · rw [s10k2 m h e h1 h2 h3, e]; rfl
          · rw [s10k3 m h e h1 h2 h3, e]; rfl
          · rw [s10k4 m h e h1 h2 h3, e]; rfl
          · rw [s10k5 m h e h1 h2 h3, e]; rfl
          · rw [s10k6 m h e h1 h2 h3, e]; rfl
          · rw [s10k7 m h e h1 h2 h3, e]; rfl
          · rw [s10k8 m h e h1 h2 h3, e]; rfl
          · rw [s10k9 m h e h1 h2 h3, e]; rfl
          · rw [s10k10 m h e h1 h2 h3, e]; rfl
          · rw [s10k11 m h e h1 h2 h3, e]; rfl
          · rw [s10k12 m h e h1 h2 h3, e]; rfl
          · rw [s10k13 m h e h1 h2 h3, e]; rfl
          · rw [s10k14 m h e h1 h2 h3, e]; rfl
          · rw [s10k15 m h e h1 h2 h3, e]; rfl
          · rw [s10k16 m h e h1 h2 h3, e]; rfl
          · rw [s10k17 m h e h1 h2 h3, e]; rfl
  · unfold G10
    rw [show kindOk m.kind = false from decide_eq_false hk, g10_eq]
    by_cases hl : m.kind < 1
    · rw [if_pos (show (cop .lss m.kind 1) = true by simp only [CQ]; omega)]; rfl
    · rw [if_neg (show ¬ (cop .lss m.kind 1) = true by simp only [CQ]; omega), if_pos (show (cop .gtr m.kind 17) = true by simp only [CQ]; omega)]; rfl

theorem s10 (m : Msg) (h : m.Fits) : g10 m.kind m.view m.frm m.to m.round m.region m.slot m.op.core m.op.op m.op.part m.err m.settled m.req.id.core m.req.id.op m.req.id.part m.req.call.kind m.req.call.slot m.req.call.dest m.req.call.core m.req.call.mask m.req.call.object m.req.call.bits m.req.call.level m.req.call.offset m.req.call.count m.req.call.index m.req.call.addr m.req.region m.req.width m.req.src.id.core m.req.src.id.op m.req.src.id.part (idCells m.req.src.path) m.req.src.cap.kind m.req.src.cap.base m.req.src.cap.bits m.req.src.cap.rights m.req.src.cap.width m.req.src.cap.level m.req.src.cap.device (idCells m.ids) (m.nodes.map nodec) (intCells m.cores) (m.moves.map movec) m.base m.next.number (intCells m.next.members) (intCells m.next.owners) (m.state.slots.map slotc) (m.state.pending.map reqc) (m.state.marks.map markc) (m.state.answers.map ansc) (m.state.entries.map entryc) (idCells m.state.commits) m.report.core m.report.view.number (intCells m.report.view.members) (intCells m.report.view.owners) (m.report.state.slots.map slotc) (m.report.state.pending.map reqc) (m.report.state.marks.map markc) (m.report.state.answers.map ansc) (m.report.state.entries.map entryc) (idCells m.report.state.commits) m.report.ready m.report.next.number (intCells m.report.next.members) (intCells m.report.next.owners) (m.report.proposal.slots.map slotc) (m.report.proposal.pending.map reqc) (m.report.proposal.marks.map markc) (m.report.proposal.answers.map ansc) (m.report.proposal.entries.map entryc) (idCells m.report.proposal.commits) = some (validB m) := s10_m m h

end Go.Proofs.YtceopohbfkamiaaGreat
end

section
namespace Go.Proofs.YtceopohbfkamiaaGreat
open Go Go.AM
set_option linter.unusedSimpArgs false
set_option linter.unusedVariables false
set_option maxRecDepth 100000

abbrev capSh : List Sh := [.int .i64, .int .i64, .int .i64, .int .i64, .int .i64, .int .i64, .bool]

/-- The element i of what Retype made. -/
theorem elem_new {γ : Type} {obj a sz bits r w l : Int} {d : Bool} {n : Nat} {i : Int} (k : (Int × Int × Int × Int × Int × Int × Bool) → Option γ) (h0 : 0 ≤ i) (h1 : i.toNat < n) :
    elemK (newCells obj a sz bits r w l d n) i capSh k = k (obj, a + i * sz, bits, r, w, l, d) := by
  have hi : ((i.toNat : Nat) : Int) = i := by omega
  refine elemK_at (sh := capSh) k h0 (newCells_at obj a sz bits r w l d n i.toNat h1) (r := (obj, a + i * sz, bits, r, w, l, d)) ?_
  simp only [newCell, hi]
  rfl

theorem ofEs_new (obj a sz bits r w l : Int) (d : Bool) (j : Nat) : ofEs capSh (newCell obj a sz bits r w l d j) = some (obj, a + j * sz, bits, r, w, l, d) := rfl

theorem ofEs_newCells {obj a sz bits r w l : Int} {d : Bool} {n : Nat} {x : List AV} (h : x ∈ newCells obj a sz bits r w l d n) : ∃ r, ofEs capSh x = some r := by
  obtain ⟨j, _, rfl⟩ := List.mem_map.1 h
  exact ⟨_, ofEs_new ..⟩

theorem ret_good {c : Cap} {obj bits level width off cnt : Int} (h : retErr c obj bits level width off cnt = 0) :
    capOk c = true ∧ c.kind = 1 ∧ iop .and .i64 c.rights 2 ≠ 0 ∧ sizeOk obj bits = true ∧ (obj = 3 → formOk width level = true) ∧ 1 ≤ cnt ∧ cnt ≤ 8 ∧ 0 ≤ off ∧ (c.device = true → obj = 1 ∨ obj = 2) ∧
      off % 2 ^ bits.toNat = 0 ∧ off ≤ 2 ^ c.bits.toNat - cnt * 2 ^ bits.toNat ∧ (obj = 1 → bits < c.bits) := by
  unfold retErr at h
  split at h
  · cases h
  split at h
  · cases h
  split at h
  · cases h
  split at h
  · cases h
  split at h
  · cases h
  rename_i h1 h2 h3 h4 h5
  refine ⟨?_, ?_, h2, ?_, ?_, ?_, ?_, ?_, ?_, ?_, ?_, ?_⟩ <;> grind

theorem ret_cells {c : Cap} {obj bits level width off cnt : Int} : ∃ a r w l d n, n < 2 ^ 30 ∧ retCells c obj bits level width off cnt = newCells obj a (2 ^ bits.toNat) bits r w l d n := by
  by_cases h : retErr c obj bits level width off cnt = 0
  · obtain ⟨_, _, _, _, _, _, h7, _⟩ := ret_good h
    simp only [retCells, h, if_true]
    exact ⟨_, _, _, _, _, cnt.toNat, by omega, rfl⟩
  · simp only [retCells, if_neg h]
    exact ⟨0, 0, 0, 0, false, 0, by omega, rfl⟩

theorem shl_i {a b : Int} (h0 : 0 ≤ b) (h1 : b ≤ 62) (h2 : 0 ≤ a) (h3 : a * 2 ^ b.toNat < 2 ^ 63) : iop .shl .i64 a b = a * 2 ^ b.toNat := by
  have hmin : min b.toNat IntKind.i64.bits = b.toNat := by
    have : IntKind.i64.bits = 64 := rfl
    omega
  simp only [iop, hmin]
  have hp := pow_pos2 b.toNat
  have : 0 ≤ a * 2 ^ b.toNat := Int.mul_nonneg h2 (by omega)
  rw [wrap_of (by omega) h3]

/-- One by one, Retype makes what it makes at once. -/
theorem ret_one {c : Cap} {obj bits level width off cnt : Int} (h : retErr c obj bits level width off cnt = 0) {i : Nat} (hi : (i : Int) < cnt) : retErr c obj bits level width (off + i * 2 ^ bits.toNat) 1 = 0 := by
  obtain ⟨h1, h2, h3, h4, h5, h6, h7, h8, h9, h10, h11, h12⟩ := ret_good h
  have hp := pow_pos2 bits.toNat
  have m0 : 0 ≤ (i : Int) * 2 ^ bits.toNat := Int.mul_nonneg (by omega) (by omega)
  have m1 : ((i : Int) + 1) * 2 ^ bits.toNat ≤ cnt * 2 ^ bits.toNat := Int.mul_le_mul_of_nonneg_right (by omega) (by omega)
  have m2 : ((i : Int) + 1) * 2 ^ bits.toNat = i * 2 ^ bits.toNat + 2 ^ bits.toNat := by rw [Int.add_mul, Int.one_mul]
  have hmod : (off + i * 2 ^ bits.toNat) % 2 ^ bits.toNat = 0 := by rw [Int.add_mul_emod_self_right]; exact h10
  rw [retErr, if_neg (by simp [h1, h2]), if_neg h3, if_neg (by
    rintro (h | ⟨h, h'⟩ | h | h | h)
    · rw [h4] at h; cases h
    · rw [h5 h] at h'; cases h'
    · omega
    · omega
    · omega), if_neg (by rintro ⟨h, h', h''⟩; rcases h9 h with h | h <;> omega), if_neg (by
    rintro (h | h | ⟨h, h'⟩)
    · exact h hmod
    · omega
    · have := h12 h; omega)]

end Go.Proofs.YtceopohbfkamiaaGreat
end

section
namespace Go.Proofs.YtceopohbfkamiaaGreat
open Go Go.AM
set_option linter.unusedSimpArgs false
set_option linter.unusedVariables false
set_option maxRecDepth 100000

theorem emod_rng (x n : Int) (h : 1 ≤ n) : 0 ≤ x % n ∧ x % n < n := ⟨Int.emod_nonneg x (by omega), Int.emod_lt_of_pos x (by omega)⟩

theorem mk_exp {b : Int} (h1 : 6 ≤ b) (h2 : b ≤ 20) : IntKind.wrap .u64 (iop .sub .i64 20 (iop .min .i64 b 20)) = 20 - b := by
  have hm : iop .min .i64 b 20 = b := by simp only [iop]; omega
  rw [hm, sub_i (by omega) (by omega), wrapu_of (by omega) (by omega)]

theorem pow_split {b : Int} (h1 : 0 ≤ b) (h2 : b ≤ 20) : (2 : Int) ^ (20 - b).toNat * 2 ^ b.toNat = 1048576 := by
  rw [← Int.pow_add, show (20 - b).toNat + b.toNat = 20 by omega]
  decide

theorem and_bv (a b : Int) : iop .and .i64 a b = (BitVec.ofInt 64 a &&& BitVec.ofInt 64 b).toInt := by
  show IntKind.wrap .i64 (((BitVec.ofInt 64 a &&& BitVec.ofInt 64 b).toNat : Nat) : Int) = _
  generalize BitVec.ofInt 64 a &&& BitVec.ofInt 64 b = x
  have := x.isLt
  rw [BitVec.toInt_eq_toNat_cond]
  simp only [IntKind.wrap]
  have hs : IntKind.i64.signed = true := rfl
  have hb : IntKind.i64.bits = 64 := rfl
  have h64 : (2 : Nat) ^ 64 = 18446744073709551616 := by decide
  have h65 : (2 : Int) ^ 64 = 18446744073709551616 := by decide
  have h63 : (2 : Int) ^ (64 - 1) = 9223372036854775808 := by decide
  simp only [hs, hb, if_true, Bool.true_and, decide_eq_true_eq, h65, h63]
  rw [h64] at this ⊢
  by_cases hx : 2 * x.toNat < 18446744073709551616
  · rw [if_pos hx]; omega
  · rw [if_neg hx]; omega

theorem and_assoc' (a b c : Int) : iop .and .i64 (iop .and .i64 a b) c = iop .and .i64 a (iop .and .i64 b c) := by
  simp only [and_bv, BitVec.ofInt_toInt, BitVec.and_assoc]

theorem and_comm' (a b : Int) : iop .and .i64 a b = iop .and .i64 b a := by
  simp only [and_bv, BitVec.and_comm]

theorem and_again (a b : Int) : iop .and .i64 (iop .and .i64 a b) a = iop .and .i64 a b := by
  rw [and_comm', ← and_assoc', and_bv a a, BitVec.and_self, and_bv, and_bv]
  simp only [BitVec.ofInt_toInt]

theorem and_rng {a : Int} (b : Int) (h0 : 0 ≤ a) (h1 : a ≤ 7) : 0 ≤ iop .and .i64 a b ∧ iop .and .i64 a b ≤ 7 := by
  have h := and_bv a b
  have hle : (BitVec.ofInt 64 a &&& BitVec.ofInt 64 b).toNat ≤ (BitVec.ofInt 64 a).toNat := by
    rw [BitVec.toNat_and]
    exact Nat.and_le_left
  have ha : (BitVec.ofInt 64 a).toNat ≤ 7 := by
    rw [BitVec.toNat_ofInt]
    omega
  rw [h, BitVec.toInt_eq_toNat_cond]
  split <;> omega

theorem and_all {a : Int} (h0 : 0 ≤ a) (h1 : a ≤ 7) : iop .and .i64 a 7 = a := by
  rcases (by omega : a = 0 ∨ a = 1 ∨ a = 2 ∨ a = 3 ∨ a = 4 ∨ a = 5 ∨ a = 6 ∨ a = 7) with rfl | rfl | rfl | rfl | rfl | rfl | rfl | rfl <;> decide

theorem cap_parts {c : Cap} (h : capOk c = true) : 0 ≤ c.rights ∧ c.rights ≤ 7 := by
  simp only [capOk, Bool.and_eq_true, decide_eq_true_eq] at h
  exact h.1.1.2

theorem cap_att {c : Cap} (h : capOk c = true) (m : Int) : capOk { c with rights := iop .and .i64 c.rights m } = true := by
  obtain ⟨h1, h2⟩ := cap_parts h
  have := and_rng m h1 h2
  simp only [capOk, Bool.and_eq_true, decide_eq_true_eq] at h ⊢
  exact ⟨⟨⟨h.1.1.1, this⟩, h.1.2⟩, h.2⟩

theorem over_comm (a b c d : Int) : overB a b c d = overB c d a b := by
  rw [bool_iff]
  simp only [overB, Bool.and_eq_true, decide_eq_true_eq]
  grind

theorem same_comm (a b : Cap) : sameB a b = sameB b a := by
  rw [bool_iff]
  simp only [sameB, Bool.and_eq_true, decide_eq_true_eq]
  grind

theorem co_comm (a b : Cap) : coB a b = coB b a := by
  simp only [coB, over_comm a.base a.bits b.base b.bits, same_comm a b]
  cases overB b.base b.bits a.base a.bits <;> cases sameB b a <;> simp [Bool.or_comm]

end Go.Proofs.YtceopohbfkamiaaGreat
end

section
namespace Go.Proofs.YtceopohbfkamiaaGreat
open Go Go.AM
set_option linter.unusedSimpArgs false
set_option linter.unusedVariables false
set_option maxRecDepth 100000

theorem pow_dvd2 {a b : Nat} (h : a ≤ b) : (2 : Int) ^ a ∣ 2 ^ b := ⟨2 ^ (b - a), by rw [← Int.pow_add]; congr 1; omega⟩

theorem pow_le_inv {a b : Nat} (h : (2 : Int) ^ a ≤ 2 ^ b) : a ≤ b := by
  rcases Nat.lt_or_ge b a with hlt | hge
  · have h1 := pow_le2 (m := b + 1) (n := a) hlt
    have h2 : (2 : Int) ^ (b + 1) = 2 ^ b * 2 := Int.pow_succ ..
    have h3 := pow_pos2 b
    omega
  · exact hge

/-- What Retype makes: each is valid, and lies in the source. -/
theorem ret_places {c : Cap} {obj bits level width off cnt : Int} (h : retErr c obj bits level width off cnt = 0) {i : Nat} (hi : (i : Int) < cnt) :
    rngOk (c.base + off + i * 2 ^ bits.toNat) bits = true ∧ capOk ⟨obj, c.base + off + i * 2 ^ bits.toNat, bits, c.rights, if obj = 3 then width else 0, if obj = 3 then level else 0, c.device⟩ = true ∧
      inB c.base c.bits (c.base + off + i * 2 ^ bits.toNat) bits = true ∧ rngEnd (c.base + off + i * 2 ^ bits.toNat) bits = c.base + off + (i + 1) * 2 ^ bits.toNat ∧ rngOk c.base c.bits = true := by
  obtain ⟨h1, h2, h3, h4, h5, h6, h7, h8, h9, h10, h11, h12⟩ := ret_good h
  obtain ⟨r1, r2, r3, r4, r5⟩ := rngOk_of (cap_rng h1)
  obtain ⟨b1, b2⟩ := size_rng h4
  have hp := pow_pos2 bits.toNat
  have m0 : 0 ≤ (i : Int) * 2 ^ bits.toNat := Int.mul_nonneg (by omega) (by omega)
  have m1 : ((i : Int) + 1) * 2 ^ bits.toNat ≤ cnt * 2 ^ bits.toNat := Int.mul_le_mul_of_nonneg_right (by omega) (by omega)
  have m2 : ((i : Int) + 1) * 2 ^ bits.toNat = i * 2 ^ bits.toNat + 2 ^ bits.toNat := by rw [Int.add_mul, Int.one_mul]
  have m3 : 1 * 2 ^ bits.toNat ≤ cnt * 2 ^ bits.toNat := Int.mul_le_mul_of_nonneg_right (by omega) (by omega)
  have hle : bits.toNat ≤ c.bits.toNat := pow_le_inv (by omega)
  have hd1 : (2 : Int) ^ bits.toNat ∣ c.base := Int.dvd_trans (pow_dvd2 hle) (Int.dvd_of_emod_eq_zero r4)
  have hd : (2 : Int) ^ bits.toNat ∣ c.base + off + i * 2 ^ bits.toNat := Int.dvd_add (Int.dvd_add hd1 (Int.dvd_of_emod_eq_zero h10)) (Int.dvd_mul_left _ _)
  have hr : rngOk (c.base + off + i * 2 ^ bits.toNat) bits = true := by
    simp only [rngOk, decide_eq_true_eq]
    exact ⟨b1, b2, by omega, Int.emod_eq_zero_of_dvd hd, by omega⟩
  have hend : rngEnd (c.base + off + i * 2 ^ bits.toNat) bits = c.base + off + (i + 1) * 2 ^ bits.toNat := by
    simp only [rngEnd, hr, if_true]
    omega
  have hrc := cap_rng h1
  refine ⟨hr, ?_, ?_, hend, hrc⟩
  · simp only [capOk, hr, h4, Bool.and_true, Bool.true_and, Bool.and_eq_true, decide_eq_true_eq, Bool.or_eq_true, Bool.not_eq_true']
    refine ⟨⟨cap_parts h1, ?_⟩, ?_⟩
    · by_cases h3 : obj = 3
      · simp only [if_pos h3]
        exact h5 h3
      · simp only [if_neg h3]
        decide
    · cases hdv : c.device
      · exact .inl (.inl rfl)
      · rcases h9 hdv with h | h
        · exact .inl (.inr h)
        · exact .inr h
  · simp only [inB, hr, hrc, Bool.true_and, Bool.and_eq_true, decide_eq_true_eq, hend]
    have : rngEnd c.base c.bits = c.base + 2 ^ c.bits.toNat := by simp only [rngEnd, hrc, if_true]
    omega

theorem or_two {r : Int} (h0 : 0 ≤ r) (h1 : r < 8) : 0 ≤ iop .or .i64 r 2 ∧ iop .or .i64 r 2 ≤ 7 ∧ iop .and .i64 (iop .or .i64 r 2) 2 ≠ 0 := by
  rcases (by omega : r = 0 ∨ r = 1 ∨ r = 2 ∨ r = 3 ∨ r = 4 ∨ r = 5 ∨ r = 6 ∨ r = 7) with rfl | rfl | rfl | rfl | rfl | rfl | rfl | rfl <;> decide

end Go.Proofs.YtceopohbfkamiaaGreat
end

section
namespace Go.Proofs.YtceopohbfkamiaaGreat
open Go Go.AM
set_option linter.unusedSimpArgs false
set_option linter.unusedVariables false
set_option maxRecDepth 100000

theorem bytes_len (l : List Int) : (byteCells l).length = l.length := by simp [byteCells]

theorem bytes_ok {l : List Int} (h : Bytes l) : bytesP (byteCells l) := by
  intro e he
  obtain ⟨z, hz, rfl⟩ := List.mem_map.1 he
  exact ⟨z, (h z hz).1, (h z hz).2, rfl⟩

theorem bytes_at {l : List Int} {i : Nat} {z : Int} (h : l[i]? = some z) : (byteCells l)[i]? = some [AV.val (.int .u8 z)] := by
  simp [byteCells, h, u8c]

theorem elem_byte {γ : Type} {l : List Int} {i : Int} {z : Int} (k : Int → Option γ) (h0 : 0 ≤ i) (h : l[i.toNat]? = some z) : elemK (byteCells l) i [.int .u8] k = k z :=
  elemK_at (sh := [.int .u8]) (r := z) k h0 (bytes_at h) rfl

theorem wrap8 (z : Int) : IntKind.wrap .u8 z = z % 256 := by
  have hb : IntKind.u8.bits = 8 := rfl
  have hs : IntKind.u8.signed = false := rfl
  simp [IntKind.wrap, hb, hs]

theorem byte_at {l : List Int} (i : Nat) (h : i < l.length) : l[i]? = some (l.getD i 0) := by simp [h]

theorem byte_in {l : List Int} (hb : Bytes l) (i : Nat) (h : i < l.length) : 0 ≤ l.getD i 0 ∧ l.getD i 0 ≤ 255 := by
  have : l.getD i 0 = l[i] := by simp [h]
  rw [this]
  exact hb _ (List.getElem_mem h)

theorem shr_i {a : Int} {n : Nat} (h : n ≤ 64) : iop .shr .i64 a n = a / 2 ^ n := by
  have hmin : min ((n : Int)).toNat IntKind.i64.bits = n := by
    have : IntKind.i64.bits = 64 := rfl
    omega
  simp only [iop, hmin]
  rw [Int.fdiv_eq_ediv_of_nonneg _ (by have := pow_pos2 n; omega)]

theorem and255 (x : Int) : IntKind.wrap .u8 (iop .and .i64 x 255) = IntKind.wrap .u8 x := by
  rw [wrap8, wrap8, and_bv, BitVec.toInt_eq_toNat_cond]
  have h1 : (BitVec.ofInt 64 x &&& BitVec.ofInt 64 255).toNat = (x % 2 ^ 64).toNat % 256 := by
    rw [BitVec.toNat_and, BitVec.toNat_ofInt, BitVec.toNat_ofInt]
    have h255 : ((255 : Int) % ((2 ^ 64 : Nat) : Int)).toNat = 2 ^ 8 - 1 := by decide
    rw [h255, Nat.and_two_pow_sub_one_eq_mod]
    rfl
  have h64 : (2 : Int) ^ 64 = 18446744073709551616 := by decide
  have h65 : (2 : Nat) ^ 64 = 18446744073709551616 := by decide
  rw [h1, h64, h65]
  split <;> omega

/-- captype.Encode -/
def capCode (c : Cap) : List Int := [c.kind, c.bits, c.rights + (if c.device = true then 8 else 0), c.width, c.level, c.base % 256, c.base / 256 % 256, c.base / 65536 % 256, c.base / 16777216 % 256, c.base / 4294967296 % 256]

def encB (c : Cap) : List Int := if capOk c = true then capCode c else []

def encE (c : Cap) : Int := if capOk c = true then 0 else 1

theorem cap_nums {c : Cap} (h : capOk c = true) : 1 ≤ c.kind ∧ c.kind ≤ 6 ∧ 6 ≤ c.bits ∧ c.bits ≤ 40 ∧ 0 ≤ c.rights ∧ c.rights ≤ 7 ∧ 0 ≤ c.width ∧ c.width ≤ 39 ∧ 0 ≤ c.level ∧ c.level ≤ 2 ∧ 0 ≤ c.base ∧ c.base < 1099511627776 := by
  obtain ⟨r1, r2, r3, r4, r5⟩ := rngOk_of (cap_rng h)
  have hp := pow_pos2 c.bits.toNat
  simp only [capOk, Bool.and_eq_true, decide_eq_true_eq] at h
  obtain ⟨⟨⟨⟨h1, h2⟩, h3⟩, h4⟩, h5⟩ := h
  simp only [sizeOk, decide_eq_true_eq] at h1
  have h6 : 0 ≤ c.width ∧ c.width ≤ 39 ∧ 0 ≤ c.level ∧ c.level ≤ 2 := by
    split at h4
    · simp only [formOk, decide_eq_true_eq] at h4
      omega
    · simp only [decide_eq_true_eq] at h4
      omega
  omega

theorem room1 {a b : List (List AV)} (ha : a.length ≤ 200000000000) (hb : b.length ≤ 200000000000) : roomP a b 1 := by
  unfold roomP roomMax
  omega

theorem enc_tail {f : Nat} {k b s r w l : Int} {d : Bool} {x0 x1 x2 x3 x4 : Int} : g181L0 (f + 1 + 1 + 1 + 1 + 1 + 1) k b s r w l d (byteCells [x0, x1, x2, x3, x4]) 0 =
    some (byteCells [x0, x1, x2, x3, x4, b % 256, b / 256 % 256, b / 65536 % 256, b / 16777216 % 256, b / 4294967296 % 256], 0) := by
  have q0 : iop .shr .i64 b (iop .mul .i64 8 0) = b := by rw [show iop .mul .i64 8 0 = ((0 : Nat) : Int) by decide, shr_i (by decide)]; simp
  have q1 : iop .shr .i64 b (iop .mul .i64 8 1) = b / 256 := by rw [show iop .mul .i64 8 1 = ((8 : Nat) : Int) by decide, shr_i (by decide)]; rfl
  have q2 : iop .shr .i64 b (iop .mul .i64 8 2) = b / 65536 := by rw [show iop .mul .i64 8 2 = ((16 : Nat) : Int) by decide, shr_i (by decide)]; rfl
  have q3 : iop .shr .i64 b (iop .mul .i64 8 3) = b / 16777216 := by rw [show iop .mul .i64 8 3 = ((24 : Nat) : Int) by decide, shr_i (by decide)]; rfl
  have q4 : iop .shr .i64 b (iop .mul .i64 8 4) = b / 4294967296 := by rw [show iop .mul .i64 8 4 = ((32 : Nat) : Int) by decide, shr_i (by decide)]; rfl
  rw [g181L0_eq, if_pos (by decide), reqK_pos (by decide), reqK_pos (room1 (by simp [byteCells]) (by simp)), q0, show iop .add .i64 0 1 = 1 by decide,
    g181L0_eq, if_pos (by decide), reqK_pos (by decide), reqK_pos (room1 (by simp [byteCells]) (by simp)), q1, show iop .add .i64 1 1 = 2 by decide,
    g181L0_eq, if_pos (by decide), reqK_pos (by decide), reqK_pos (room1 (by simp [byteCells]) (by simp)), q2, show iop .add .i64 2 1 = 3 by decide,
    g181L0_eq, if_pos (by decide), reqK_pos (by decide), reqK_pos (room1 (by simp [byteCells]) (by simp)), q3, show iop .add .i64 3 1 = 4 by decide,
    g181L0_eq, if_pos (by decide), reqK_pos (by decide), reqK_pos (room1 (by simp [byteCells]) (by simp)), q4, show iop .add .i64 4 1 = 5 by decide,
    g181L0_eq, if_neg (by decide)]
  simp only [wrap8]
  rfl

theorem s181 (k b s r w l : Int) (d : Bool) : g181 k b s r w l d = some (byteCells (encB ⟨k, b, s, r, w, l, d⟩), encE ⟨k, b, s, r, w, l, d⟩) := by
  rw [g181_eq, s109]
  simp only [Option.bind_some]
  cases hc : capOk ⟨k, b, s, r, w, l, d⟩ with
  | false => simp [encB, encE, hc, byteCells]
  | true =>
    obtain ⟨h1, h2, h3, h4, h5, h6, h7, h8, h9, h10, h11, h12⟩ := cap_nums hc
    simp only at h1 h2 h3 h4 h5 h6 h7 h8 h9 h10 h11 h12
    have a8 : iop .add .i64 r 8 = r + 8 := add_i (by omega) (by omega)
    have w1 : k % 256 = k := by omega
    have w2 : s % 256 = s := by omega
    have w3 : r % 256 = r := by omega
    have w4 : (r + 8) % 256 = r + 8 := by omega
    have w5 : w % 256 = w := by omega
    have w6 : l % 256 = l := by omega
    obtain ⟨f, hf⟩ := fuel6
    simp only [Bool.not_true, Bool.false_eq_true, if_false, wrap8, a8, w1, w2, w3, w4, w5, w6, hf]
    cases d
    · have := enc_tail (f := f) (k := k) (b := b) (s := s) (r := r) (w := w) (l := l) (d := false) (x0 := k) (x1 := s) (x2 := r) (x3 := w) (x4 := l)
      rw [if_neg (by simp)]
      simp only [encB, encE, hc, if_true, capCode, Bool.false_eq_true, if_false, Int.add_zero]
      exact this
    · have := enc_tail (f := f) (k := k) (b := b) (s := s) (r := r) (w := w) (l := l) (d := true) (x0 := k) (x1 := s) (x2 := r + 8) (x3 := w) (x4 := l)
      rw [if_pos rfl]
      simp only [encB, encE, hc, if_true, capCode]
      exact this

theorem enc_tail' {f : Nat} {k b s r w l : Int} {d : Bool} {x0 x1 x2 x3 x4 : Int} : g149L0 (f + 1 + 1 + 1 + 1 + 1 + 1) k b s r w l d (byteCells [x0, x1, x2, x3, x4]) 0 =
    some (byteCells [x0, x1, x2, x3, x4, b % 256, b / 256 % 256, b / 65536 % 256, b / 16777216 % 256, b / 4294967296 % 256], 0) := by
  have v0 : IntKind.wrap .u64 (iop .mul .i64 8 0) = ((0 : Nat) : Int) := by decide
  have v1 : IntKind.wrap .u64 (iop .mul .i64 8 1) = ((8 : Nat) : Int) := by decide
  have v2 : IntKind.wrap .u64 (iop .mul .i64 8 2) = ((16 : Nat) : Int) := by decide
  have v3 : IntKind.wrap .u64 (iop .mul .i64 8 3) = ((24 : Nat) : Int) := by decide
  have v4 : IntKind.wrap .u64 (iop .mul .i64 8 4) = ((32 : Nat) : Int) := by decide
  have q0 : iop .shr .i64 b ((0 : Nat) : Int) = b := by rw [shr_i (by decide)]; simp
  have q1 : iop .shr .i64 b ((8 : Nat) : Int) = b / 256 := shr_i (by decide)
  have q2 : iop .shr .i64 b ((16 : Nat) : Int) = b / 65536 := shr_i (by decide)
  have q3 : iop .shr .i64 b ((24 : Nat) : Int) = b / 16777216 := shr_i (by decide)
  have q4 : iop .shr .i64 b ((32 : Nat) : Int) = b / 4294967296 := shr_i (by decide)
  rw [g149L0_eq, if_pos (by decide), reqK_pos (by decide), reqK_pos (room1 (by simp [byteCells]) (by simp)), and255, v0, q0, show iop .add .i64 0 1 = 1 by decide,
    g149L0_eq, if_pos (by decide), reqK_pos (by decide), reqK_pos (room1 (by simp [byteCells]) (by simp)), and255, v1, q1, show iop .add .i64 1 1 = 2 by decide,
    g149L0_eq, if_pos (by decide), reqK_pos (by decide), reqK_pos (room1 (by simp [byteCells]) (by simp)), and255, v2, q2, show iop .add .i64 2 1 = 3 by decide,
    g149L0_eq, if_pos (by decide), reqK_pos (by decide), reqK_pos (room1 (by simp [byteCells]) (by simp)), and255, v3, q3, show iop .add .i64 3 1 = 4 by decide,
    g149L0_eq, if_pos (by decide), reqK_pos (by decide), reqK_pos (room1 (by simp [byteCells]) (by simp)), and255, v4, q4, show iop .add .i64 4 1 = 5 by decide,
    g149L0_eq, if_neg (by decide)]
  simp only [wrap8]
  rfl

theorem s149 (k b s r w l : Int) (d : Bool) : g149 k b s r w l d = some (byteCells (encB ⟨k, b, s, r, w, l, d⟩), encE ⟨k, b, s, r, w, l, d⟩) := by
  rw [g149_eq, s106]
  simp only [Option.bind_some]
  cases hc : capOk ⟨k, b, s, r, w, l, d⟩ with
  | false => simp [encB, encE, hc, byteCells]
  | true =>
    obtain ⟨h1, h2, h3, h4, h5, h6, h7, h8, h9, h10, h11, h12⟩ := cap_nums hc
    simp only at h1 h2 h3 h4 h5 h6 h7 h8 h9 h10 h11 h12
    have a8 : iop .add .i64 r 8 = r + 8 := add_i (by omega) (by omega)
    have w1 : k % 256 = k := by omega
    have w2 : s % 256 = s := by omega
    have w3 : r % 256 = r := by omega
    have w4 : (r + 8) % 256 = r + 8 := by omega
    have w5 : w % 256 = w := by omega
    have w6 : l % 256 = l := by omega
    obtain ⟨f, hf⟩ := fuel6
    simp only [Bool.not_true, Bool.false_eq_true, if_false, wrap8, a8, w1, w2, w3, w4, w5, w6, hf]
    cases d
    · have := enc_tail' (f := f) (k := k) (b := b) (s := s) (r := r) (w := w) (l := l) (d := false) (x0 := k) (x1 := s) (x2 := r) (x3 := w) (x4 := l)
      rw [if_neg (by simp)]
      simp only [encB, encE, hc, if_true, capCode, Bool.false_eq_true, if_false, Int.add_zero]
      exact this
    · have := enc_tail' (f := f) (k := k) (b := b) (s := s) (r := r) (w := w) (l := l) (d := true) (x0 := k) (x1 := s) (x2 := r + 8) (x3 := w) (x4 := l)
      rw [if_pos rfl]
      simp only [encB, encE, hc, if_true, capCode]
      exact this

end Go.Proofs.YtceopohbfkamiaaGreat
end

section
namespace Go.Proofs.YtceopohbfkamiaaGreat
open Go Go.AM
set_option linter.unusedSimpArgs false
set_option linter.unusedVariables false
set_option maxRecDepth 100000

/-- The bytes of an integer: m groups of seven bits. -/
def uvm : Nat → Nat → List Int
  | 0, _ => []
  | 1, v => [((v % 128 : Nat) : Int)]
  | m + 2, v => ((v % 128 + 128 : Nat) : Int) :: uvm (m + 1) (v / 128)

def cnt : Nat → Nat → Nat
  | 0, _ => 0
  | k + 1, r => if r = 0 then 0 else 1 + cnt k (r / 128)

/-- binenc.AppendUvarint's bytes -/
def uvN (v : Nat) : Nat := 1 + cnt 10 (v / 128)

def uv (v : Nat) : List Int := uvm (uvN v) v

theorem cnt_le : ∀ (k r : Nat), cnt k r ≤ k
  | 0, _ => Nat.le_refl _
  | k + 1, r => by
    unfold cnt
    split
    · omega
    · have := cnt_le k (r / 128)
      omega

theorem uvm_len : ∀ (m v : Nat), (uvm m v).length = m
  | 0, _ => rfl
  | 1, _ => rfl
  | m + 2, v => by simp [uvm, uvm_len (m + 1)]

theorem uvm_bytes : ∀ (m v : Nat), Bytes (uvm m v)
  | 0, _ => by simp [uvm, Bytes]
  | 1, v => by
    intro z hz
    rw [uvm, List.mem_singleton] at hz
    omega
  | m + 2, v => by
    intro z hz
    rw [uvm, List.mem_cons] at hz
    rcases hz with rfl | hz
    · omega
    · exact uvm_bytes (m + 1) (v / 128) z hz

theorem shr7 (r : Nat) : iop .shr .u64 (r : Int) 7 = ((r / 128 : Nat) : Int) := by
  have hmin : min ((7 : Int)).toNat IntKind.u64.bits = 7 := by
    have : IntKind.u64.bits = 64 := rfl
    omega
  simp only [iop, hmin]
  rw [Int.fdiv_eq_ediv_of_nonneg _ (by decide)]
  rfl

theorem and127 (v : Nat) : IntKind.wrap .u8 (iop .and .u64 (v : Int) 127) = ((v % 128 : Nat) : Int) := by
  have h1 : (BitVec.ofInt 64 (v : Int) &&& BitVec.ofInt 64 127).toNat = v % 128 := by
    rw [BitVec.toNat_and, BitVec.toNat_ofInt, BitVec.toNat_ofInt]
    have h127 : ((127 : Int) % ((2 ^ 64 : Nat) : Int)).toNat = 2 ^ 7 - 1 := by decide
    rw [h127, Nat.and_two_pow_sub_one_eq_mod]
    have h65 : (2 : Nat) ^ 64 = 18446744073709551616 := by decide
    have h7 : (2 : Nat) ^ 7 = 128 := by decide
    rw [h65, h7]
    omega
  show IntKind.wrap .u8 (IntKind.wrap .u64 (((BitVec.ofInt 64 (v : Int) &&& BitVec.ofInt 64 127).toNat : Nat) : Int)) = _
  rw [h1, wrapu_of (by omega) (by have : (2 : Int) ^ 64 = 18446744073709551616 := by decide
                                  omega), wrap8]
  omega

theorem or128 {c : Nat} (h : c < 128) : iop .or .u8 (c : Int) 128 = ((c + 128 : Nat) : Int) := by
  have : ∀ c : Fin 128, iop .or .u8 ((c.val : Nat) : Int) 128 = ((c.val + 128 : Nat) : Int) := by decide +kernel
  exact this ⟨c, h⟩

theorem bytes_app (a b : List Int) : byteCells (a ++ b) = byteCells a ++ byteCells b := by simp [byteCells]

theorem bytes_both {a b : List Int} (ha : Bytes a) (hb : Bytes b) : Bytes (a ++ b) := by
  intro z hz
  rcases List.mem_append.1 hz with h | h
  · exact ha z h
  · exact hb z h

theorem set_byte : ∀ (a b : List Int) (y z : Int), setElem (byteCells (a ++ y :: b)) a.length 0 [AV.val (.int .u8 z)] = byteCells (a ++ z :: b)
  | [], b, y, z => by simp [setElem, byteCells, u8c, setCells, List.modify_zero_cons]
  | x :: a, b, y, z => by
    have ih := set_byte a b y z
    simp only [setElem, byteCells] at ih ⊢
    simp only [List.cons_append, List.map_cons, List.length_cons, List.modify_succ_cons, ih]

theorem l72a {x0 : List (List AV)} {v : Int} (hx : x0.length ≤ 100000000000) : ∀ (k fuel r s : Nat), r < 128 ^ k → k < fuel → s + k ≤ 100 → ∀ (y : Option (List (List AV))),
    g72L0 FUEL x0 v ((s + cnt k r : Nat) : Int) 0 ((x0.length + (s + cnt k r) : Nat) : Int) ((x0.length + (s + cnt k r) : Nat) : Int) (splL (List.replicate (x0.length + (s + cnt k r)) [AV.val (.int .u8 0)]) x0) = y → g72L1 fuel x0 v s r = y := by
  have exit : ∀ (f s : Nat), s ≤ 100 → ∀ (y : Option (List (List AV))), g72L0 FUEL x0 v (s : Int) 0 ((x0.length + s : Nat) : Int) ((x0.length + s : Nat) : Int) (splL (List.replicate (x0.length + s) [AV.val (.int .u8 0)]) x0) = y → g72L1 (f + 1) x0 v s (0 : Nat) = y := by
    intro f s hs y hy
    have ha : iop .add .i64 (x0.length : Int) (s : Int) = ((x0.length + s : Nat) : Int) := by rw [add_i (by omega) (by omega)]; omega
    rw [g72L1_eq, if_neg (by decide), ha, reqK_pos ⟨by omega, by unfold roomMax; omega⟩, Int.toNat_natCast]
    exact hy
  intro k
  induction k with
  | zero =>
    intro fuel r s hr hf hs y hy
    obtain ⟨f, rfl⟩ : ∃ f, fuel = f + 1 := ⟨fuel - 1, by omega⟩
    have h0 : r = 0 := by simpa using hr
    subst h0
    exact exit f s (by omega) y hy
  | succ k ih =>
    intro fuel r s hr hf hs y hy
    obtain ⟨f, rfl⟩ : ∃ f, fuel = f + 1 := ⟨fuel - 1, by omega⟩
    by_cases h0 : r = 0
    · subst h0
      exact exit f s (by omega) y hy
    · have hc : cnt (k + 1) r = 1 + cnt k (r / 128) := by rw [cnt, if_neg h0]
      have hd : r / 128 < 128 ^ k := by
        rw [Nat.pow_succ] at hr
        exact Nat.div_lt_of_lt_mul (by omega)
      have a4 : iop .add .i64 (s : Int) 1 = ((s + 1 : Nat) : Int) := by rw [add_i (by omega) (by omega)]; omega
      rw [g72L1_eq, if_pos (by simp only [CQ]; omega), reqK_pos (by decide), a4, shr7]
      refine ih f (r / 128) (s + 1) hd (by omega) (by omega) y ?_
      rw [hc] at hy
      rw [show s + 1 + cnt k (r / 128) = s + (1 + cnt k (r / 128)) by omega]
      exact hy

theorem l72b (l : List Int) {N C : Int} {size : Nat} (hl : l.length + size ≤ 200000000000) (hN : N = ((l.length + size : Nat) : Int)) : ∀ (m fuel i v : Nat) (done : List Int), size = i + m → m < fuel → done.length = i →
    g72L0 fuel (byteCells l) (v : Int) (size : Int) (i : Int) N C (byteCells (l ++ done ++ List.replicate m 0)) = some (byteCells (l ++ done ++ uvm m v)) := by
  intro m
  induction m with
  | zero =>
    intro fuel i v done h hf hd
    obtain ⟨f, rfl⟩ : ∃ f, fuel = f + 1 := ⟨fuel - 1, by omega⟩
    rw [g72L0_eq, if_neg (by simp only [CQ]; omega)]
    simp [uvm]
  | succ m ih =>
    intro fuel i v done h hf hd
    obtain ⟨f, rfl⟩ : ∃ f, fuel = f + 1 := ⟨fuel - 1, by omega⟩
    have a1 : iop .sub .i64 (size : Int) 1 = ((size - 1 : Nat) : Int) := by rw [sub_i (by omega) (by omega)]; omega
    have a2 : iop .add .i64 (l.length : Int) (i : Int) = ((l.length + i : Nat) : Int) := by rw [add_i (by omega) (by omega)]; omega
    have a3 : iop .add .i64 (i : Int) 1 = ((i + 1 : Nat) : Int) := by rw [add_i (by omega) (by omega)]; omega
    have hat : (l ++ done).length = l.length + i := by simp [hd]
    have hset : ∀ z : Int, setElem (byteCells (l ++ done ++ List.replicate (m + 1) 0)) (l.length + i) 0 [AV.val (.int .u8 z)] = byteCells (l ++ (done ++ [z]) ++ List.replicate m 0) := by
      intro z
      have := set_byte (l ++ done) (List.replicate m 0) 0 z
      rw [hat] at this
      rw [List.replicate_succ, this]
      simp [List.append_assoc]
    rw [g72L0_eq, if_pos (by simp only [CQ]; omega), bytes_len, a1, a2, a3, shr7, Int.toNat_natCast, and127, or128 (Nat.mod_lt _ (by decide)), hset, hset]
    cases m with
    | zero =>
      rw [if_neg (by simp only [CQ]; omega), reqK_pos (by omega), reqK_pos (by omega), reqK_pos (by omega), reqK_pos (by omega), reqK_pos (by decide)]
      have := ih f (i + 1) (v / 128) (done ++ [((v % 128 : Nat) : Int)]) (by omega) (by omega) (by simp [hd])
      rw [this]
      simp [uvm]
    | succ m =>
      rw [if_pos (by simp only [CQ]; omega), reqK_pos (by omega), reqK_pos (by omega), reqK_pos (by omega), reqK_pos (by omega), reqK_pos (by decide)]
      have := ih f (i + 1) (v / 128) (done ++ [((v % 128 + 128 : Nat) : Int)]) (by omega) (by omega) (by simp [hd])
      rw [this]
      simp [uvm, List.append_assoc]

theorem splL_rep (l : List Int) (n : Nat) : splL (List.replicate (l.length + n) [AV.val (.int .u8 0)]) (byteCells l) = byteCells (l ++ List.replicate n 0) := by
  unfold splL
  rw [List.length_replicate, List.take_of_length_le (by rw [bytes_len]; omega), bytes_len, List.drop_replicate, bytes_app]
  have : l.length + n - l.length = n := by omega
  rw [this]
  congr 1
  simp [byteCells, u8c]

theorem s72 (l : List Int) (hl : l.length ≤ 100000000000) (v : Nat) (hv : v < 2 ^ 64) : g72 (byteCells l) v = some (byteCells (l ++ uv v)) := by
  rw [g72_eq, reqK_pos (by decide), shr7]
  have h64 : (2 : Nat) ^ 64 = 18446744073709551616 := by decide
  have h128 : (128 : Nat) ^ 10 = 1180591620717411303424 := by decide
  refine l72a (by rw [bytes_len]; exact hl) 10 FUEL (v / 128) 1 (by omega) (fuel_lt (by decide)) (by decide) _ ?_
  rw [bytes_len, splL_rep]
  have hc := cnt_le 10 (v / 128)
  have := l72b l (N := ((l.length + (1 + cnt 10 (v / 128)) : Nat) : Int)) (C := ((l.length + (1 + cnt 10 (v / 128)) : Nat) : Int)) (size := 1 + cnt 10 (v / 128)) (by omega) rfl (1 + cnt 10 (v / 128)) FUEL 0 v [] (by omega) (fuel_lt (by omega)) rfl
  rw [List.append_nil] at this
  exact this

theorem uv_len (v : Nat) : (uv v).length = uvN v := uvm_len _ _

theorem uvN_le (v : Nat) : uvN v ≤ 11 := by have := cnt_le 10 (v / 128); unfold uvN; omega

theorem uv_bytes (v : Nat) : Bytes (uv v) := uvm_bytes _ _

/-- node.AppendId's bytes -/
def idB (i : Id) : List Int := uv i.core.toNat ++ uv i.op.toNat ++ uv i.part.toNat

theorem idB_le (i : Id) : (idB i).length ≤ 33 := by
  have h1 := uvN_le i.core.toNat
  have h2 := uvN_le i.op.toNat
  have h3 := uvN_le i.part.toNat
  simp only [idB, List.length_append, uv_len]
  omega

theorem s72' (l : List Int) (hl : l.length ≤ 100000000000) (z : Int) (h0 : 0 ≤ z) (h1 : z < 2 ^ 63) : g72 (byteCells l) (IntKind.wrap .u64 z) = some (byteCells (l ++ uv z.toNat)) := by
  have h63 : (2 : Int) ^ 63 = 9223372036854775808 := by decide
  have h64 : (2 : Int) ^ 64 = 18446744073709551616 := by decide
  have h64' : (2 : Nat) ^ 64 = 18446744073709551616 := by decide
  have e : IntKind.wrap .u64 z = ((z.toNat : Nat) : Int) := by rw [wrapu_of h0 (by omega)]; omega
  rw [e]
  exact s72 l hl z.toNat (by omega)

theorem idOk_of {i : Id} (h : idOk i = true) : 0 ≤ i.core ∧ i.core < 32 ∧ 1 ≤ i.op ∧ i.op ≤ 1073741824 ∧ 0 ≤ i.part ∧ i.part < 8 := by simpa [idOk] using h

theorem s147 (l : List Int) (hl : l.length ≤ 90000000000) (i : Id) (hi : idOk i = true) : g147 (byteCells l) i.core i.op i.part = some (byteCells (l ++ idB i)) := by
  obtain ⟨h1, h2, h3, h4, h5, h6⟩ := idOk_of hi
  obtain ⟨f, hf⟩ := fuel6
  have h63 : (2 : Int) ^ 63 = 9223372036854775808 := by decide
  have u1 := uvN_le i.core.toNat
  have u2 := uvN_le i.op.toNat
  have e : (((([] : List (List AV)) ++ [[AV.val (.int .i64 i.core)]]) ++ [[AV.val (.int .i64 i.op)]]) ++ [[AV.val (.int .i64 i.part)]]) = [i64c i.core, i64c i.op, i64c i.part] := rfl
  have e1 : iop .add .i64 0 1 = 1 := by decide
  have e2 : iop .add .i64 1 1 = 2 := by decide
  have e3 : iop .add .i64 2 1 = 3 := by decide
  have hlen : (([i64c i.core, i64c i.op, i64c i.part] : List (List AV)).length : Int) = 3 := rfl
  rw [g147_eq, e, hf, hlen]
  rw [g147L0_eq, if_pos (by decide), elemK_at (sh := [.int .i64]) (cs := i64c i.core) (r := i.core) _ (by decide) rfl rfl, s72' l (by omega) i.core h1 (by omega), Option.bind_some, e1,
    g147L0_eq, if_pos (by decide), elemK_at (sh := [.int .i64]) (cs := i64c i.op) (r := i.op) _ (by decide) rfl rfl, s72' _ (by rw [List.length_append, uv_len]; omega) i.op (by omega) (by omega), Option.bind_some, e2,
    g147L0_eq, if_pos (by decide), elemK_at (sh := [.int .i64]) (cs := i64c i.part) (r := i.part) _ (by decide) rfl rfl, s72' _ (by rw [List.length_append, List.length_append, uv_len, uv_len]; omega) i.part (by omega) (by omega), Option.bind_some, e3,
    g147L0_eq, if_neg (by decide)]
  simp [idB, List.append_assoc]

/-- node.Encode's bytes -/
def nodeCode (n : Node) : List Int := idB n.id ++ uv n.path.length ++ (n.path.map idB).flatten ++ capCode n.cap

def nodeB (n : Node) : List Int := if nodeOk n = true then nodeCode n else []

def nodeE (n : Node) : Int := if nodeOk n = true then 0 else 1

theorem node_of {n : Node} (h : nodeOk n = true) : idOk n.id = true ∧ capOk n.cap = true ∧ n.path.length ≤ 8 ∧ ∀ i, i < n.path.length → pathAt n i = true := by
  simp only [nodeOk, Bool.and_eq_true, decide_eq_true_eq, List.all_eq_true, List.mem_range] at h
  exact ⟨h.1.1.1, h.1.1.2, h.1.2, h.2⟩

theorem path_ok {n : Node} (h : nodeOk n = true) (x : Id) (hx : x ∈ n.path) : idOk x = true := by
  obtain ⟨i, hi⟩ := List.mem_iff_getElem?.1 hx
  have := (node_of h).2.2.2 i (List.getElem?_eq_some_iff.1 hi).1
  unfold pathAt at this
  rw [hi] at this
  simp only [Bool.and_eq_true] at this
  exact this.1.1

theorem l174 (n : Node) (hn : nodeOk n = true) : ∀ (j i fuel : Nat) (acc : List Int), n.path.length = i + j → j < fuel → acc.length ≤ 1000 + 33 * i →
    g174L0 fuel n.id.core n.id.op n.id.part (idCells n.path) n.cap.kind n.cap.base n.cap.bits n.cap.rights n.cap.width n.cap.level n.cap.device (byteCells acc) (idCells n.path) (n.path.length : Int) i =
      some (byteCells (acc ++ ((n.path.drop i).map idB).flatten ++ capCode n.cap), 0) := by
  obtain ⟨h1, h2, h3, h4⟩ := node_of hn
  intro j
  induction j with
  | zero =>
    intro i fuel acc h hf ha
    obtain ⟨f, rfl⟩ : ∃ f, fuel = f + 1 := ⟨fuel - 1, by omega⟩
    have hb : encB ⟨n.cap.kind, n.cap.base, n.cap.bits, n.cap.rights, n.cap.width, n.cap.level, n.cap.device⟩ = capCode n.cap := by
      show encB n.cap = _
      unfold encB
      rw [if_pos h2]
    rw [g174L0_eq, if_neg (by simp only [CQ]; omega), s181, Option.bind_some, hb, reqK_pos (room1 (by rw [bytes_len]; omega) (by rw [bytes_len]; simp [capCode])), List.drop_of_length_le (by omega)]
    simp [bytes_app]
  | succ j ih =>
    intro i fuel acc h hf ha
    obtain ⟨f, rfl⟩ : ∃ f, fuel = f + 1 := ⟨fuel - 1, by omega⟩
    have hi : i < n.path.length := by omega
    have hat : n.path[(i : Int).toNat]? = some n.path[i] := by simp
    have a4 : iop .add .i64 i 1 = ((i + 1 : Nat) : Int) := by rw [add_i (by omega) (by omega)]; omega
    have hx := path_ok hn n.path[i] (List.getElem_mem hi)
    have hle := idB_le n.path[i]
    rw [g174L0_eq, if_pos (by simp only [CQ]; omega), elem_id _ (by omega) hat, s147 acc (by omega) _ hx, Option.bind_some, a4, ih (i + 1) f _ (by omega) (by omega) (by rw [List.length_append]; omega), List.drop_eq_getElem_cons hi]
    simp only [List.map_cons, List.flatten_cons, List.append_assoc]

theorem s174 (n : Node) (hl : n.path.length < 2 ^ 63) : g174 n.id.core n.id.op n.id.part (idCells n.path) n.cap.kind n.cap.base n.cap.bits n.cap.rights n.cap.width n.cap.level n.cap.device = some (byteCells (nodeB n), nodeE n) := by
  rw [g174_eq, s50 n hl, Option.bind_some]
  unfold nodeB nodeE
  cases hn : nodeOk n with
  | false => rfl
  | true =>
    obtain ⟨h1, h2, h3, h4⟩ := node_of hn
    have hle := idB_le n.id
    have hu := uvN_le n.path.length
    have e0 : ([] : List (List AV)) = byteCells [] := rfl
    rw [if_neg (by simp), e0, s147 [] (by simp) n.id h1, Option.bind_some, List.nil_append, ids_len, s72' _ (by omega) _ (by omega) (by omega), Option.bind_some, Int.toNat_natCast, if_pos rfl, if_pos rfl]
    have := l174 n hn n.path.length 0 FUEL (idB n.id ++ uv n.path.length) (by omega) (fuel_lt (by omega)) (by rw [List.length_append, uv_len]; omega)
    refine this.trans ?_
    rfl

end Go.Proofs.YtceopohbfkamiaaGreat
end

section
namespace Go.Proofs.YtceopohbfkamiaaGreat
open Go Go.AM
set_option linter.unusedSimpArgs false
set_option linter.unusedVariables false
set_option maxRecDepth 100000

theorem cnt_fuel : ∀ (k r : Nat), r < 128 ^ k → cnt (k + 1) r = cnt k r
  | 0, r, h => by
    have : r = 0 := by simpa using h
    subst this
    rfl
  | k + 1, r, h => by
    have e : ∀ (m r : Nat), cnt (m + 1) r = if r = 0 then 0 else 1 + cnt m (r / 128) := fun _ _ => rfl
    rw [e (k + 1) r, e k r]
    by_cases h0 : r = 0
    · rw [if_pos h0, if_pos h0]
    · have hd : r / 128 < 128 ^ k := by
        rw [Nat.pow_succ] at h
        exact Nat.div_lt_of_lt_mul (by omega)
      rw [if_neg h0, if_neg h0, cnt_fuel k _ hd]

theorem uv_step {v : Nat} (hv : v < 2 ^ 64) : uv v = if v < 128 then [(v : Int)] else ((v % 128 + 128 : Nat) : Int) :: uv (v / 128) := by
  have h64 : (2 : Nat) ^ 64 = 18446744073709551616 := by decide
  by_cases h : v < 128
  · rw [if_pos h]
    have h0 : v / 128 = 0 := by omega
    have hn : uvN v = 1 := by rw [uvN, h0]; rfl
    have hm : v % 128 = v := by omega
    rw [uv, hn, uvm, hm]
  · rw [if_neg h]
    have h0 : v / 128 ≠ 0 := by omega
    have hf : cnt 10 (v / 128 / 128) = cnt 9 (v / 128 / 128) := cnt_fuel 9 _ (by
      have : (128 : Nat) ^ 9 = 9223372036854775808 := by decide
      omega)
    have hn : uvN v = uvN (v / 128) + 1 := by rw [uvN, uvN, hf, cnt, if_neg h0]; omega
    have hn' : uvN v = (cnt 10 (v / 128 / 128)) + 2 := by rw [hn, uvN]; omega
    rw [uv, hn', uvm, uv, uvN]
    rw [show 1 + cnt 10 (v / 128 / 128) = cnt 10 (v / 128 / 128) + 1 by omega]

theorem uvN_step {v : Nat} (hv : v < 2 ^ 64) : uvN v = if v < 128 then 1 else uvN (v / 128) + 1 := by
  rw [← uv_len, uv_step hv]
  split
  · rfl
  · rw [List.length_cons, uv_len]

theorem l83 : ∀ (k fuel v : Nat) (l : List Int), v < 2 ^ 63 → v < 128 ^ (k + 1) → k < fuel → l.length + k ≤ 100000000000 → g83L0 fuel (byteCells l) (v : Int) = some (byteCells (l ++ uv v)) := by
  have h63 : (2 : Nat) ^ 63 = 9223372036854775808 := by decide
  have h64 : (2 : Nat) ^ 64 = 18446744073709551616 := by decide
  have snoc : ∀ (l : List Int) (z : Int), byteCells l ++ (([] : List (List AV)) ++ [[AV.val (.int .u8 z)]]) = byteCells (l ++ [z]) := by intro l z; simp [byteCells, u8c]
  have small : ∀ (f v : Nat) (l : List Int), v < 128 → l.length ≤ 100000000000 → g83L0 (f + 1) (byteCells l) (v : Int) = some (byteCells (l ++ uv v)) := by
    intro f v l hv hl
    have w : IntKind.wrap .u8 (v : Int) = (v : Int) := by rw [wrap8]; omega
    rw [g83L0_eq, if_neg (by simp only [CQ]; omega), reqK_pos (room1 (by rw [bytes_len]; omega) (by simp)), w, snoc, uv_step (by omega), if_pos hv]
  intro k
  induction k with
  | zero =>
    intro fuel v l h1 h2 hf hl
    obtain ⟨f, rfl⟩ : ∃ f, fuel = f + 1 := ⟨fuel - 1, by omega⟩
    exact small f v l (by simpa using h2) (by omega)
  | succ k ih =>
    intro fuel v l h1 h2 hf hl
    obtain ⟨f, rfl⟩ : ∃ f, fuel = f + 1 := ⟨fuel - 1, by omega⟩
    by_cases hv : v < 128
    · exact small f v l hv (by omega)
    · have hd : v / 128 < 128 ^ (k + 1) := by
        rw [Nat.pow_succ] at h2
        exact Nat.div_lt_of_lt_mul (by omega)
      have e1 : iop .rem .i64 (v : Int) 128 = ((v % 128 : Nat) : Int) := by
        show (v : Int).tmod 128 = _
        rw [Int.tmod_eq_emod_of_nonneg (by omega)]
        omega
      have e2 : iop .add .i64 ((v % 128 : Nat) : Int) 128 = ((v % 128 + 128 : Nat) : Int) := by rw [add_i (by omega) (by omega)]; omega
      have e3 : IntKind.wrap .u8 ((v % 128 + 128 : Nat) : Int) = ((v % 128 + 128 : Nat) : Int) := by rw [wrap8]; omega
      have e4 : iop .quo .i64 (v : Int) 128 = ((v / 128 : Nat) : Int) := by
        show IntKind.wrap .i64 ((v : Int).tdiv 128) = _
        rw [Int.tdiv_eq_ediv_of_nonneg (by omega), wrap_of (by omega) (by omega)]
        omega
      rw [g83L0_eq, if_pos (by simp only [CQ]; omega), reqK_pos (by decide), reqK_pos (room1 (by rw [bytes_len]; omega) (by simp)), reqK_pos (by decide), e1, e2, e3, e4, snoc,
        ih f (v / 128) _ (by omega) hd (by omega) (by rw [List.length_append]; simp; omega), uv_step (v := v) (by omega), if_neg hv]
      simp [List.append_assoc]

theorem s83 (l : List Int) (hl : l.length ≤ 90000000000) (z : Int) (h0 : 0 ≤ z) (h1 : z < 2 ^ 63) : g83 (byteCells l) z = some (byteCells (l ++ uv z.toNat)) := by
  have h63 : (2 : Int) ^ 63 = 9223372036854775808 := by decide
  have h63' : (2 : Nat) ^ 63 = 9223372036854775808 := by decide
  have h128 : (128 : Nat) ^ 11 = 151115727451828646838272 := by decide
  have e : z = ((z.toNat : Nat) : Int) := by omega
  rw [g83_eq]
  have := l83 10 FUEL z.toNat l (by omega) (by omega) (fuel_lt (by decide)) (by omega)
  rw [← e] at this
  exact this

theorem s24 (l : List Int) (hl : l.length ≤ 80000000000) (i : Id) (hi : idOk i = true) : g24 (byteCells l) i.core i.op i.part = some (byteCells (l ++ idB i)) := by
  obtain ⟨h1, h2, h3, h4, h5, h6⟩ := idOk_of hi
  have h63 : (2 : Int) ^ 63 = 9223372036854775808 := by decide
  have u1 := uvN_le i.core.toNat
  have u2 := uvN_le i.op.toNat
  rw [g24_eq, s83 l (by omega) i.core h1 (by omega), Option.bind_some, s83 _ (by rw [List.length_append, uv_len]; omega) i.op (by omega) (by omega), Option.bind_some,
    s83 _ (by rw [List.length_append, List.length_append, uv_len, uv_len]; omega) i.part (by omega) (by omega), Option.bind_some]
  simp [idB, List.append_assoc]

theorem l85 (n : Node) (hn : nodeOk n = true) : ∀ (j i fuel : Nat) (acc : List Int), n.path.length = i + j → j < fuel → acc.length ≤ 1000 + 33 * i →
    g85L0 fuel n.id.core n.id.op n.id.part (idCells n.path) n.cap.kind n.cap.base n.cap.bits n.cap.rights n.cap.width n.cap.level n.cap.device (byteCells acc) i =
      some (byteCells (acc ++ ((n.path.drop i).map idB).flatten ++ capCode n.cap), 0) := by
  obtain ⟨h1, h2, h3, h4⟩ := node_of hn
  intro j
  induction j with
  | zero =>
    intro i fuel acc h hf ha
    obtain ⟨f, rfl⟩ : ∃ f, fuel = f + 1 := ⟨fuel - 1, by omega⟩
    have hb : encB ⟨n.cap.kind, n.cap.base, n.cap.bits, n.cap.rights, n.cap.width, n.cap.level, n.cap.device⟩ = capCode n.cap := by
      show encB n.cap = _
      unfold encB
      rw [if_pos h2]
    rw [g85L0_eq, if_neg (by simp only [CQ, ids_len]; omega), s149, Option.bind_some, hb, reqK_pos (room1 (by rw [bytes_len]; omega) (by rw [bytes_len]; simp [capCode])), List.drop_of_length_le (by omega)]
    simp [bytes_app]
  | succ j ih =>
    intro i fuel acc h hf ha
    obtain ⟨f, rfl⟩ : ∃ f, fuel = f + 1 := ⟨fuel - 1, by omega⟩
    have hi : i < n.path.length := by omega
    have hat : n.path[(i : Int).toNat]? = some n.path[i] := by simp
    have a4 : iop .add .i64 i 1 = ((i + 1 : Nat) : Int) := by rw [add_i (by omega) (by omega)]; omega
    have hx := path_ok hn n.path[i] (List.getElem_mem hi)
    have hle := idB_le n.path[i]
    rw [g85L0_eq, if_pos (by simp only [CQ, ids_len]; omega), elem_id _ (by omega) hat, s24 acc (by omega) _ hx, Option.bind_some, a4, ih (i + 1) f _ (by omega) (by omega) (by rw [List.length_append]; omega), List.drop_eq_getElem_cons hi]
    simp only [List.map_cons, List.flatten_cons, List.append_assoc]

theorem s85 (n : Node) (hl : n.path.length < 2 ^ 63) : g85 n.id.core n.id.op n.id.part (idCells n.path) n.cap.kind n.cap.base n.cap.bits n.cap.rights n.cap.width n.cap.level n.cap.device = some (byteCells (nodeB n), nodeE n) := by
  rw [g85_eq, s45 n hl, Option.bind_some]
  unfold nodeB nodeE
  cases hn : nodeOk n with
  | false => rfl
  | true =>
    obtain ⟨h1, h2, h3, h4⟩ := node_of hn
    have hle := idB_le n.id
    have hu := uvN_le n.path.length
    have e0 : ([] : List (List AV)) = byteCells [] := rfl
    rw [if_neg (by simp), e0, s24 [] (by simp) n.id h1, Option.bind_some, List.nil_append, ids_len, s83 _ (by omega) _ (by omega) (by omega), Option.bind_some, Int.toNat_natCast, if_pos rfl, if_pos rfl]
    have := l85 n hn n.path.length 0 FUEL (idB n.id ++ uv n.path.length) (by omega) (fuel_lt (by omega)) (by rw [List.length_append, uv_len]; omega)
    refine this.trans ?_
    rfl

end Go.Proofs.YtceopohbfkamiaaGreat
end

section
namespace Go.Proofs.YtceopohbfkamiaaGreat
open Go Go.AM
set_option linter.unusedSimpArgs false
set_option linter.unusedVariables false
set_option maxRecDepth 100000

theorem wrapu_rng (z : Int) : 0 ≤ IntKind.u64.wrap z ∧ IntKind.u64.wrap z < 2 ^ 64 := by
  have hs : IntKind.u64.signed = false := rfl
  have hb : IntKind.u64.bits = 64 := rfl
  have h64 : (2 : Int) ^ 64 = 18446744073709551616 := by decide
  simp only [IntKind.wrap, hs, hb, Bool.false_and, if_false, Bool.false_eq_true, h64]
  omega

theorem xor_u (a b : Int) : iop .xor .u64 a b = (((BitVec.ofInt 64 a ^^^ BitVec.ofInt 64 b).toNat : Nat) : Int) := by
  have h := (BitVec.ofInt 64 a ^^^ BitVec.ofInt 64 b).isLt
  show IntKind.u64.wrap (((BitVec.ofInt 64 a ^^^ BitVec.ofInt 64 b).toNat : Nat) : Int) = _
  exact wrapu_of (by omega) (by have : (2 : Int) ^ 64 = ((2 ^ 64 : Nat) : Int) := by decide
                                omega)

theorem xor_comm_u (a b : Int) : iop .xor .u64 a b = iop .xor .u64 b a := by rw [xor_u, xor_u, BitVec.xor_comm]

theorem xor_zero_u {a : Int} (h0 : 0 ≤ a) (h1 : a < 2 ^ 64) : iop .xor .u64 a 0 = a := by
  have h64 : (2 : Int) ^ 64 = 18446744073709551616 := by decide
  have e : BitVec.ofInt 64 (0 : Int) = 0#64 := rfl
  rw [xor_u, e, BitVec.xor_zero, BitVec.toNat_ofInt]
  omega

/-- A signed number, as an unsigned one. -/
def sgV (z : Int) : Int := if z < 0 then iop .xor .u64 18446744073709551615 (iop .shl .u64 (IntKind.wrap .u64 z) 1) else iop .shl .u64 (IntKind.wrap .u64 z) 1

theorem shl_rng (z : Int) : 0 ≤ iop .shl .u64 (IntKind.wrap .u64 z) 1 ∧ iop .shl .u64 (IntKind.wrap .u64 z) 1 < 2 ^ 64 := wrapu_rng _

theorem sgV_rng (z : Int) : 0 ≤ sgV z ∧ sgV z < 2 ^ 64 := by
  unfold sgV
  split
  · rw [xor_u]
    have h := (BitVec.ofInt 64 18446744073709551615 ^^^ BitVec.ofInt 64 (iop .shl .u64 (IntKind.wrap .u64 z) 1)).isLt
    have : (2 : Int) ^ 64 = ((2 ^ 64 : Nat) : Int) := by decide
    omega
  · exact shl_rng z

theorem sg_wire {z : Int} (h0 : -(2 ^ 63 : Int) ≤ z) (h1 : z < 2 ^ 63) : iop .xor .u64 (iop .shl .u64 (IntKind.wrap .u64 z) 1) (IntKind.wrap .u64 (iop .shr .i64 z 63)) = sgV z := by
  have h63 : (2 : Int) ^ 63 = 9223372036854775808 := by decide
  have e : iop .shr .i64 z 63 = z / 2 ^ 63 := shr_i (n := 63) (by decide)
  rw [e]
  unfold sgV
  by_cases hz : z < 0
  · have e2 : z / 2 ^ 63 = -1 := by omega
    have e3 : IntKind.u64.wrap (-1) = 18446744073709551615 := by decide
    rw [e2, e3, if_pos hz, xor_comm_u]
  · have e2 : z / 2 ^ 63 = 0 := by omega
    have e3 : IntKind.u64.wrap 0 = 0 := by decide
    rw [e2, e3, if_neg hz, xor_zero_u (shl_rng z).1 (shl_rng z).2]

def sgB (z : Int) : List Int := uv (sgV z).toNat

theorem s173 (l : List Int) (hl : l.length ≤ 80000000000) {z : Int} (h0 : -(2 ^ 63 : Int) ≤ z) (h1 : z < 2 ^ 63) : g173 (byteCells l) z = some (byteCells (l ++ sgB z)) := by
  have hr := sgV_rng z
  have h64 : (2 : Int) ^ 64 = ((2 ^ 64 : Nat) : Int) := by decide
  have e : sgV z = (((sgV z).toNat : Nat) : Int) := by omega
  rw [g173_eq, reqK_pos (by decide), reqK_pos (by decide), sg_wire h0 h1, e, s72 l (by omega) _ (by omega), Option.bind_some]
  rfl

/-! how a list is written -/
theorem scan_app {α : Type} {F : Nat → List (List AV) → Int → Option (List (List AV))} {l : List α} (c : α → List Int) (b lim : Nat) (hn : l.length < 2 ^ 63) (hB : ∀ x ∈ l, (c x).length ≤ b)
    (step : ∀ (k i : Nat) (acc : List Int) (hi : i < l.length), acc.length ≤ lim → F (k + 1) (byteCells acc) (i : Int) = F k (byteCells (acc ++ c l[i])) ((i + 1 : Nat) : Int))
    (last : ∀ (k i : Nat) (acc : List Int), l.length ≤ i → F (k + 1) (byteCells acc) (i : Int) = some (byteCells acc)) (acc : List Int) (ha : acc.length + b * l.length ≤ lim) :
    F FUEL (byteCells acc) 0 = some (byteCells (acc ++ (l.map c).flatten)) := by
  have key : ∀ (j i fuel : Nat) (acc : List Int), l.length ≤ i + j → j < fuel → acc.length + b * (l.length - i) ≤ lim → F fuel (byteCells acc) (i : Int) = some (byteCells (acc ++ ((l.drop i).map c).flatten)) := by
    intro j
    induction j with
    | zero =>
      intro i fuel acc h hf _
      obtain ⟨f, rfl⟩ : ∃ f, fuel = f + 1 := ⟨fuel - 1, by omega⟩
      rw [last f i acc (by omega), List.drop_of_length_le (by omega)]
      simp
    | succ j ih =>
      intro i fuel acc h hf hb
      obtain ⟨f, rfl⟩ : ∃ f, fuel = f + 1 := ⟨fuel - 1, by omega⟩
      by_cases hi : i < l.length
      · have hx := hB _ (List.getElem_mem hi)
        have hm : b * (l.length - i) = b + b * (l.length - (i + 1)) := by
          rw [show l.length - i = (l.length - (i + 1)) + 1 by omega, Nat.mul_add, Nat.mul_one, Nat.add_comm]
        rw [step f i acc hi (by omega), ih (i + 1) f (acc ++ c l[i]) (by omega) (by omega) (by rw [List.length_append]; omega), List.drop_eq_getElem_cons hi, List.map_cons, List.flatten_cons, List.append_assoc]
      · rw [last f i acc (by omega), List.drop_of_length_le (by omega)]
        simp
  have := key l.length 0 FUEL acc (by omega) (by have := fuel63 hn; omega) (by simpa using ha)
  simpa using this

theorem uv_le (v : Nat) : (uv v).length ≤ 11 := by rw [uv_len]; exact uvN_le v

/-- A number from 0 on, written. -/
def nB (z : Int) : List Int := uv z.toNat
theorem nB_le (z : Int) : (nB z).length ≤ 11 := uv_le _

theorem s18 (l : List Int) (hl : l.length ≤ 80000000000) {z : Int} (h0 : 0 ≤ z) (h1 : z < 2 ^ 63) : g18 (byteCells l) z = some (byteCells (l ++ nB z)) := by
  rw [g18_eq, s72' l (by omega) z h0 h1]; rfl

theorem s21 (l : List Int) (hl : l.length ≤ 80000000000) {z : Int} (h0 : 0 ≤ z) (h1 : z < 2 ^ 63) : g21 (byteCells l) z = some (byteCells (l ++ nB z)) := by
  rw [g21_eq, s83 l (by omega) z h0 h1]; rfl

/-- An id whose parts are no less than zero, and small. -/
structure Id.Small (i : Id) : Prop where
  c0 : 0 ≤ i.core
  c1 : i.core < 2 ^ 40
  o0 : 0 ≤ i.op
  o1 : i.op < 2 ^ 40
  p0 : 0 ≤ i.part
  p1 : i.part < 2 ^ 40

theorem nat_of_ok {i : Id} (h : idOk i = true) : i.Small := by
  obtain ⟨h1, h2, h3, h4, h5, h6⟩ := idOk_of h
  have : (2 : Int) ^ 40 = 1099511627776 := by decide
  exact ⟨h1, by omega, by omega, by omega, h5, by omega⟩

theorem nat_zid : zid.Small := ⟨by decide, by decide, by decide, by decide, by decide, by decide⟩

theorem s74 (l : List Int) (hl : l.length ≤ 80000000000) {i : Id} (hi : i.Small) : g74 (byteCells l) i.core i.op i.part = some (byteCells (l ++ idB i)) := by
  obtain ⟨h1, h2, h3, h4, h5, h6⟩ := hi
  obtain ⟨f, hf⟩ := fuel6
  have h63 : (2 : Int) ^ 63 = 9223372036854775808 := by decide
  have h40 : (2 : Int) ^ 40 = 1099511627776 := by decide
  have u1 := uvN_le i.core.toNat
  have u2 := uvN_le i.op.toNat
  have e : (((([] : List (List AV)) ++ [[AV.val (.int .i64 i.core)]]) ++ [[AV.val (.int .i64 i.op)]]) ++ [[AV.val (.int .i64 i.part)]]) = [i64c i.core, i64c i.op, i64c i.part] := rfl
  have e1 : iop .add .i64 0 1 = 1 := by decide
  have e2 : iop .add .i64 1 1 = 2 := by decide
  have e3 : iop .add .i64 2 1 = 3 := by decide
  have hlen : (([i64c i.core, i64c i.op, i64c i.part] : List (List AV)).length : Int) = 3 := rfl
  rw [g74_eq, g147_eq, e, hf, hlen]
  rw [g147L0_eq, if_pos (by decide), elemK_at (sh := [.int .i64]) (cs := i64c i.core) (r := i.core) _ (by decide) rfl rfl, s72' l (by omega) i.core h1 (by omega), Option.bind_some, e1,
    g147L0_eq, if_pos (by decide), elemK_at (sh := [.int .i64]) (cs := i64c i.op) (r := i.op) _ (by decide) rfl rfl, s72' _ (by rw [List.length_append, uv_len]; omega) i.op (by omega) (by omega), Option.bind_some, e2,
    g147L0_eq, if_pos (by decide), elemK_at (sh := [.int .i64]) (cs := i64c i.part) (r := i.part) _ (by decide) rfl rfl, s72' _ (by rw [List.length_append, List.length_append, uv_len, uv_len]; omega) i.part (by omega) (by omega), Option.bind_some, e3,
    g147L0_eq, if_neg (by decide), Option.bind_some]
  simp [idB, List.append_assoc]

theorem s24' (l : List Int) (hl : l.length ≤ 80000000000) {i : Id} (hi : i.Small) : g24 (byteCells l) i.core i.op i.part = some (byteCells (l ++ idB i)) := by
  obtain ⟨h1, h2, h3, h4, h5, h6⟩ := hi
  have h63 : (2 : Int) ^ 63 = 9223372036854775808 := by decide
  have h40 : (2 : Int) ^ 40 = 1099511627776 := by decide
  have u1 := uvN_le i.core.toNat
  have u2 := uvN_le i.op.toNat
  rw [g24_eq, s83 l (by omega) i.core h1 (by omega), Option.bind_some, s83 _ (by rw [List.length_append, uv_len]; omega) i.op (by omega) (by omega), Option.bind_some,
    s83 _ (by rw [List.length_append, List.length_append, uv_len, uv_len]; omega) i.part (by omega) (by omega), Option.bind_some]
  simp [idB, List.append_assoc]

end Go.Proofs.YtceopohbfkamiaaGreat
end

section
namespace Go.Proofs.YtceopohbfkamiaaGreat
open Go Go.AM
set_option linter.unusedSimpArgs false
set_option linter.unusedVariables false
set_option maxRecDepth 100000

theorem l148 : ∀ (k fuel v : Nat) (l : List Int), v < 2 ^ 64 → v < 128 ^ (k + 1) → k < fuel → l.length + k ≤ 100000000000 → g148L0 fuel (byteCells l) (v : Int) = some (byteCells (l ++ uv v)) := by
  have h63 : (2 : Nat) ^ 63 = 9223372036854775808 := by decide
  have h64 : (2 : Nat) ^ 64 = 18446744073709551616 := by decide
  have snoc : ∀ (l : List Int) (z : Int), byteCells l ++ (([] : List (List AV)) ++ [[AV.val (.int .u8 z)]]) = byteCells (l ++ [z]) := by intro l z; simp [byteCells, u8c]
  have small : ∀ (f v : Nat) (l : List Int), v < 128 → l.length ≤ 100000000000 → g148L0 (f + 1) (byteCells l) (v : Int) = some (byteCells (l ++ uv v)) := by
    intro f v l hv hl
    have w : IntKind.wrap .u8 (v : Int) = (v : Int) := by rw [wrap8]; omega
    rw [g148L0_eq, if_neg (by simp only [cop_lss_t, cop_lss_f, cop_leq_t, cop_leq_f, cop_gtr_t, cop_gtr_f, cop_geq_t, cop_geq_f, cop_eql_t, cop_eql_f, cop_neq_t, cop_neq_f, Bool.not_eq_true, Bool.not_eq_false, Bool.not_eq_true', Bool.not_eq_false', Bool.and_eq_true, Bool.or_eq_true, decide_eq_true_eq, decide_eq_false_iff_not, Bool.false_eq_true, Bool.true_eq_false, Option.bind_some, Option.some.injEq, false_iff, true_iff, iff_false, iff_true]; omega), reqK_pos (room1 (by rw [bytes_len]; omega) (by simp)), w, snoc, uv_step (by omega), if_pos hv]
  intro k
  induction k with
  | zero =>
    intro fuel v l h1 h2 hf hl
    obtain ⟨f, rfl⟩ : ∃ f, fuel = f + 1 := ⟨fuel - 1, by omega⟩
    exact small f v l (by simpa using h2) (by omega)
  | succ k ih =>
    intro fuel v l h1 h2 hf hl
    obtain ⟨f, rfl⟩ : ∃ f, fuel = f + 1 := ⟨fuel - 1, by omega⟩
    by_cases hv : v < 128
    · exact small f v l hv (by omega)
    · have hd : v / 128 < 128 ^ (k + 1) := by
        rw [Nat.pow_succ] at h2
        exact Nat.div_lt_of_lt_mul (by omega)
      have e1 : iop .rem .u64 (v : Int) 128 = ((v % 128 : Nat) : Int) := by
        show (v : Int).tmod 128 = _
        rw [Int.tmod_eq_emod_of_nonneg (by omega)]
        omega
      have e2 : iop .add .u64 ((v % 128 : Nat) : Int) 128 = ((v % 128 + 128 : Nat) : Int) := by (show IntKind.wrap .u64 _ = _); rw [wrapu_of (by omega) (by omega)]; omega
      have e3 : IntKind.wrap .u8 ((v % 128 + 128 : Nat) : Int) = ((v % 128 + 128 : Nat) : Int) := by rw [wrap8]; omega
      have e4 : iop .quo .u64 (v : Int) 128 = ((v / 128 : Nat) : Int) := by
        show IntKind.wrap .u64 ((v : Int).tdiv 128) = _
        rw [Int.tdiv_eq_ediv_of_nonneg (by omega), wrapu_of (by omega) (by omega)]
        omega
      rw [g148L0_eq, if_pos (by simp only [cop_lss_t, cop_lss_f, cop_leq_t, cop_leq_f, cop_gtr_t, cop_gtr_f, cop_geq_t, cop_geq_f, cop_eql_t, cop_eql_f, cop_neq_t, cop_neq_f, Bool.not_eq_true, Bool.not_eq_false, Bool.not_eq_true', Bool.not_eq_false', Bool.and_eq_true, Bool.or_eq_true, decide_eq_true_eq, decide_eq_false_iff_not, Bool.false_eq_true, Bool.true_eq_false, Option.bind_some, Option.some.injEq, false_iff, true_iff, iff_false, iff_true]; omega), reqK_pos (by decide), reqK_pos (room1 (by rw [bytes_len]; omega) (by simp)), reqK_pos (by decide), e1, e2, e3, e4, snoc,
        ih f (v / 128) _ (by omega) hd (by omega) (by rw [List.length_append]; simp; omega), uv_step (v := v) (by omega), if_neg hv]
      simp [List.append_assoc]

theorem s148 (l : List Int) (hl : l.length ≤ 80000000000) (z : Int) : g148 (byteCells l) z = some (byteCells (l ++ sgB z)) := by
  have hr := sgV_rng z
  have h64 : (2 : Int) ^ 64 = ((2 ^ 64 : Nat) : Int) := by decide
  have h64' : (2 : Nat) ^ 64 = 18446744073709551616 := by decide
  have h128 : (128 : Nat) ^ 11 = 151115727451828646838272 := by decide
  have e : sgV z = (((sgV z).toNat : Nat) : Int) := by omega
  have := l148 10 FUEL (sgV z).toNat l (by omega) (by omega) (fuel_lt (by decide)) (by omega)
  rw [← e] at this
  rw [g148_eq, reqK_pos (by decide)]
  unfold sgV at this
  by_cases hz : z < 0
  · rw [if_pos (show (cop .lss z 0) = true by simp only [CQ]; exact hz)]
    rw [if_pos hz] at this
    refine this.trans ?_
    unfold sgB sgV
    rw [if_pos hz]
  · rw [if_neg (show ¬ (cop .lss z 0) = true by simp only [CQ]; omega)]
    rw [if_neg hz] at this
    refine this.trans ?_
    unfold sgB sgV
    rw [if_neg hz]

/-! calls -/
def callL (c : Call) : List Int := [c.kind, c.slot, c.dest, c.core, c.mask, c.object, c.bits, c.level, c.offset, c.count, c.index, c.addr]
def callB (c : Call) : List Int := ((callL c).map sgB).flatten
def Rng (z : Int) : Prop := -(2 ^ 63 : Int) ≤ z ∧ z < 2 ^ 63

theorem sgB_le (z : Int) : (sgB z).length ≤ 11 := uv_le _

theorem flat_le {α : Type} (c : α → List Int) (b : Nat) : ∀ (l : List α), (∀ x ∈ l, (c x).length ≤ b) → ((l.map c).flatten).length ≤ b * l.length
  | [], _ => by simp
  | x :: l, h => by
    have h1 := h x (by simp)
    have h2 := flat_le c b l fun y hy => h y (by simp [hy])
    rw [List.map_cons, List.flatten_cons, List.length_append, List.length_cons, Nat.mul_add]
    omega

theorem callB_le (c : Call) : (callB c).length ≤ 132 := flat_le sgB 11 (callL c) fun x _ => sgB_le x

theorem s145 (l : List Int) (hl : l.length + 132 ≤ 80000000000) (c : Call) (hc : ∀ z ∈ callL c, Rng z) : g145 (byteCells l) c.kind c.slot c.dest c.core c.mask c.object c.bits c.level c.offset c.count c.index c.addr = some (byteCells (l ++ callB c)) := by
  refine (g145_eq ..).trans ?_
  show g145L0 FUEL (byteCells l) (intCells (callL c)) ((callL c).length : Int) 0 = _
  refine scan_app (F := fun k a i => g145L0 k a (intCells (callL c)) ((callL c).length : Int) i) (l := callL c) sgB 11 80000000000 (show (callL c).length < 2 ^ 63 by show 12 < 2 ^ 63; omega) (fun x _ => sgB_le x) (fun k i acc hi ha => ?_) (fun k i acc hi => ?_) l hl
  · refine (g145L0_eq ..).trans ?_
    have hz := hc _ (List.getElem_mem hi)
    rw [if_pos (lss_t hi)]
    refine (elem_ints hi _).trans ?_
    rw [s173 acc ha hz.1 hz.2, Option.bind_some, inc_i hi (show (callL c).length < 2 ^ 63 by show 12 < 2 ^ 63; omega)]
  · refine (g145L0_eq ..).trans ?_
    rw [if_neg (lss_f hi)]

theorem s84 (l : List Int) (hl : l.length + 132 ≤ 80000000000) (c : Call) : g84 (byteCells l) c.kind c.slot c.dest c.core c.mask c.object c.bits c.level c.offset c.count c.index c.addr = some (byteCells (l ++ callB c)) := by
  refine (g84_eq ..).trans ?_
  show g84L0 FUEL (byteCells l) (intCells (callL c)) 0 = _
  refine scan_app (F := fun k a i => g84L0 k a (intCells (callL c)) i) (l := callL c) sgB 11 80000000000 (show (callL c).length < 2 ^ 63 by show 12 < 2 ^ 63; omega) (fun x _ => sgB_le x) (fun k i acc hi ha => ?_) (fun k i acc hi => ?_) l hl
  · refine (g84L0_eq ..).trans ?_
    rw [ints_len, if_pos (lss_t hi)]
    refine (elem_ints hi _).trans ?_
    rw [s148 acc ha, Option.bind_some, inc_i hi (show (callL c).length < 2 ^ 63 by show 12 < 2 ^ 63; omega)]
  · refine (g84L0_eq ..).trans ?_
    rw [ints_len, if_neg (lss_f hi)]

/-! nodes -/
theorem nodeB_le (n : Node) : (nodeB n).length ≤ 400 := by
  unfold nodeB
  split
  · rename_i h
    have hp : n.path.length ≤ 8 := by
      simp only [nodeOk, Bool.and_eq_true, decide_eq_true_eq] at h
      exact h.1.2
    have h1 := idB_le n.id
    have h2 := uv_le n.path.length
    have h3 := flat_le idB 33 n.path fun x _ => idB_le x
    have h4 : (capCode n.cap).length = 10 := rfl
    unfold nodeCode
    rw [List.length_append, List.length_append, List.length_append]
    omega
  · simp

def nodeL (n : Node) : List Int := nB ((nodeB n).length : Int) ++ nodeB n
theorem nodeL_le (n : Node) : (nodeL n).length ≤ 411 := by
  have h1 := nodeB_le n
  have h2 := nB_le ((nodeB n).length : Int)
  unfold nodeL
  rw [List.length_append]
  omega

theorem bytes_app' (a b : List Int) : byteCells a ++ byteCells b = byteCells (a ++ b) := by simp [byteCells]

theorem s146 (l : List Int) (hl : l.length ≤ 80000000000) (n : Node) (hn : n.path.length < 2 ^ 63) : g146 (byteCells l) n.id.core n.id.op n.id.part (idCells n.path) n.cap.kind n.cap.base n.cap.bits n.cap.rights n.cap.width n.cap.level n.cap.device = some (byteCells (l ++ nodeL n)) := by
  have h1 := nodeB_le n
  have h2 := nB_le ((nodeB n).length : Int)
  rw [g146_eq, s174 n hn, Option.bind_some]
  dsimp only
  rw [bytes_len, s18 l hl (by omega) (by omega), Option.bind_some, reqK_pos (room1 (by rw [bytes_len, List.length_append]; omega) (by rw [bytes_len]; omega)), bytes_app']
  unfold nodeL
  rw [List.append_assoc]

theorem s30 (l : List Int) (hl : l.length ≤ 80000000000) (n : Node) (hn : n.path.length < 2 ^ 63) : g30 (byteCells l) n.id.core n.id.op n.id.part (idCells n.path) n.cap.kind n.cap.base n.cap.bits n.cap.rights n.cap.width n.cap.level n.cap.device = some (byteCells (l ++ nodeL n)) := by
  have h1 := nodeB_le n
  have h2 := nB_le ((nodeB n).length : Int)
  rw [g30_eq, s85 n hn, Option.bind_some]
  dsimp only
  rw [bytes_len, s21 l hl (by omega) (by omega), Option.bind_some, reqK_pos (room1 (by rw [bytes_len, List.length_append]; omega) (by rw [bytes_len]; omega)), bytes_app']
  unfold nodeL
  rw [List.append_assoc]

/-! requests -/
def reqB (r : Req) : List Int := idB r.id ++ callB r.call ++ nB r.region ++ nB r.width ++ nodeL r.src
theorem reqB_le (r : Req) : (reqB r).length ≤ 598 := by
  have h1 := idB_le r.id
  have h2 := callB_le r.call
  have h3 := nB_le r.region
  have h4 := nB_le r.width
  have h5 := nodeL_le r.src
  unfold reqB
  rw [List.length_append, List.length_append, List.length_append, List.length_append]
  omega

structure Req.Good (r : Req) : Prop where
  id : r.id.Small
  call : ∀ z ∈ callL r.call, Rng z
  reg0 : 0 ≤ r.region
  reg1 : r.region < 2 ^ 63
  wid0 : 0 ≤ r.width
  wid1 : r.width < 2 ^ 63
  path : r.src.path.length < 2 ^ 63

theorem s73 (l : List Int) (hl : l.length + 598 ≤ 80000000000) (r : Req) (h : r.Good) : g73 (byteCells l) r.id.core r.id.op r.id.part r.call.kind r.call.slot r.call.dest r.call.core r.call.mask r.call.object r.call.bits r.call.level r.call.offset r.call.count r.call.index r.call.addr r.region r.width r.src.id.core r.src.id.op r.src.id.part (idCells r.src.path) r.src.cap.kind r.src.cap.base r.src.cap.bits r.src.cap.rights r.src.cap.width r.src.cap.level r.src.cap.device = some (byteCells (l ++ reqB r)) := by
  have h1 := idB_le r.id
  have h2 := callB_le r.call
  have h3 := nB_le r.region
  have h4 := nB_le r.width
  rw [g73_eq, s74 l (by omega) h.id, Option.bind_some, s145 _ (by rw [List.length_append]; omega) r.call h.call, Option.bind_some, s18 _ (by rw [List.length_append, List.length_append]; omega) h.reg0 h.reg1, Option.bind_some, s18 _ (by rw [List.length_append, List.length_append, List.length_append]; omega) h.wid0 h.wid1, Option.bind_some, s146 _ (by rw [List.length_append, List.length_append, List.length_append, List.length_append]; omega) r.src h.path, Option.bind_some]
  unfold reqB
  simp only [List.append_assoc]

theorem s22 (l : List Int) (hl : l.length + 598 ≤ 80000000000) (r : Req) (h : r.Good) : g22 (byteCells l) r.id.core r.id.op r.id.part r.call.kind r.call.slot r.call.dest r.call.core r.call.mask r.call.object r.call.bits r.call.level r.call.offset r.call.count r.call.index r.call.addr r.region r.width r.src.id.core r.src.id.op r.src.id.part (idCells r.src.path) r.src.cap.kind r.src.cap.base r.src.cap.bits r.src.cap.rights r.src.cap.width r.src.cap.level r.src.cap.device = some (byteCells (l ++ reqB r)) := by
  have h1 := idB_le r.id
  have h2 := callB_le r.call
  have h3 := nB_le r.region
  have h4 := nB_le r.width
  rw [g22_eq, s24' l (by omega) h.id, Option.bind_some, s84 _ (by rw [List.length_append]; omega) r.call, Option.bind_some, s21 _ (by rw [List.length_append, List.length_append]; omega) h.reg0 h.reg1, Option.bind_some, s21 _ (by rw [List.length_append, List.length_append, List.length_append]; omega) h.wid0 h.wid1, Option.bind_some, s30 _ (by rw [List.length_append, List.length_append, List.length_append, List.length_append]; omega) r.src h.path, Option.bind_some]
  unfold reqB
  simp only [List.append_assoc]

/-! flags -/
def bB (b : Bool) : List Int := if b = true then nB 1 else nB 0
theorem s75 (l : List Int) (hl : l.length ≤ 80000000000) (b : Bool) : g75 (byteCells l) b = some (byteCells (l ++ bB b)) := by
  rw [g75_eq]
  cases b with
  | true => rw [if_pos rfl, s18 l hl (by decide) (by decide)]; rfl
  | false => rw [if_neg Bool.false_ne_true, s18 l hl (by decide) (by decide)]; rfl

theorem s23 (l : List Int) (hl : l.length ≤ 80000000000) (b : Bool) : g23 (byteCells l) b = some (byteCells (l ++ bB b)) := by
  rw [g23_eq]
  cases b with
  | true => rw [if_pos rfl, s21 l hl (by decide) (by decide)]; rfl
  | false => rw [if_neg Bool.false_ne_true, s21 l hl (by decide) (by decide)]; rfl

/-! lists -/
def moveB (m : Move) : List Int := nB m.region ++ nB m.to
theorem moveB_le (m : Move) : (moveB m).length ≤ 22 := by
  have h1 := nB_le m.region
  have h2 := nB_le m.to
  unfold moveB
  rw [List.length_append]
  omega

/-- A list, with its length ahead. -/
def listB {α : Type} (c : α → List Int) (xs : List α) : List Int := nB (xs.length : Int) ++ (xs.map c).flatten

theorem s76 (l : List Int) (xs : List Node) (hl : l.length + 11 + 411 * xs.length ≤ 79999999978) (hx : xs.length < 2 ^ 63) (h : ∀ x ∈ xs, x.path.length < 2 ^ 63) : g76 (byteCells l) (xs.map nodec) = some (byteCells (l ++ listB nodeL xs)) := by
  have h1 := nB_le (xs.length : Int)
  refine (g76_eq ..).trans ?_
  rw [List.length_map, s18 l (by omega) (by omega) (by omega), Option.bind_some]
  unfold listB
  rw [← List.append_assoc]
  refine scan_app (F := fun k a i => g76L0 k a (xs.map nodec) (xs.length : Int) i) (l := xs) nodeL 411 79999999978 hx (fun x _ => nodeL_le x) (fun k i acc hi ha => ?_) (fun k i acc hi => ?_) _ (by rw [List.length_append]; omega)
  · refine (g76L0_eq ..).trans ?_
    have hz := h _ (List.getElem_mem hi)
    rw [if_pos (lss_t hi)]
    refine (elem_nodes hi _).trans ?_
    simp only [nodeV, d2, d4, d8, d16]
    rw [s146 acc (by omega) _ hz, Option.bind_some, inc_i hi hx]
  · refine (g76L0_eq ..).trans ?_
    rw [if_neg (lss_f hi)]

theorem s77 (l : List Int) (xs : List Id) (hl : l.length + 11 + 33 * xs.length ≤ 79999999978) (hx : xs.length < 2 ^ 63) (h : ∀ x ∈ xs, x.Small) : g77 (byteCells l) (idCells xs) = some (byteCells (l ++ listB idB xs)) := by
  have h1 := nB_le (xs.length : Int)
  refine (g77_eq ..).trans ?_
  rw [ids_len, s18 l (by omega) (by omega) (by omega), Option.bind_some]
  unfold listB
  rw [← List.append_assoc]
  refine scan_app (F := fun k a i => g77L0 k a (idCells xs) (xs.length : Int) i) (l := xs) idB 33 79999999978 hx (fun x _ => idB_le x) (fun k i acc hi ha => ?_) (fun k i acc hi => ?_) _ (by rw [List.length_append]; omega)
  · refine (g77L0_eq ..).trans ?_
    have hz := h _ (List.getElem_mem hi)
    rw [if_pos (lss_t hi)]
    refine (elem_ids hi _).trans ?_
    dsimp only
    rw [s74 acc (by omega) hz, Option.bind_some, inc_i hi hx]
  · refine (g77L0_eq ..).trans ?_
    rw [if_neg (lss_f hi)]

theorem s78 (l : List Int) (xs : List Int) (hl : l.length + 11 + 11 * xs.length ≤ 79999999978) (hx : xs.length < 2 ^ 63) (h : ∀ x ∈ xs, 0 ≤ x ∧ x < 2 ^ 63) : g78 (byteCells l) (intCells xs) = some (byteCells (l ++ listB nB xs)) := by
  have h1 := nB_le (xs.length : Int)
  refine (g78_eq ..).trans ?_
  rw [ints_len, s18 l (by omega) (by omega) (by omega), Option.bind_some]
  unfold listB
  rw [← List.append_assoc]
  refine scan_app (F := fun k a i => g78L0 k a (intCells xs) (xs.length : Int) i) (l := xs) nB 11 79999999978 hx (fun x _ => nB_le x) (fun k i acc hi ha => ?_) (fun k i acc hi => ?_) _ (by rw [List.length_append]; omega)
  · refine (g78L0_eq ..).trans ?_
    have hz := h _ (List.getElem_mem hi)
    rw [if_pos (lss_t hi)]
    refine (elem_ints hi _).trans ?_
    rw [s18 acc (by omega) hz.1 hz.2, Option.bind_some, inc_i hi hx]
  · refine (g78L0_eq ..).trans ?_
    rw [if_neg (lss_f hi)]

theorem s82 (l : List Int) (xs : List Move) (hl : l.length + 11 + 22 * xs.length ≤ 79999999978) (hx : xs.length < 2 ^ 63) (h : ∀ x ∈ xs, (0 ≤ x.region ∧ x.region < 2 ^ 63) ∧ 0 ≤ x.to ∧ x.to < 2 ^ 63) : g82 (byteCells l) (xs.map movec) = some (byteCells (l ++ listB moveB xs)) := by
  have h1 := nB_le (xs.length : Int)
  refine (g82_eq ..).trans ?_
  rw [List.length_map, s18 l (by omega) (by omega) (by omega), Option.bind_some]
  unfold listB
  rw [← List.append_assoc]
  refine scan_app (F := fun k a i => g82L0 k a (xs.map movec) (xs.length : Int) i) (l := xs) moveB 22 79999999978 hx (fun x _ => moveB_le x) (fun k i acc hi ha => ?_) (fun k i acc hi => ?_) _ (by rw [List.length_append]; omega)
  · refine (g82L0_eq ..).trans ?_
    have hz := h _ (List.getElem_mem hi)
    rw [if_pos (lss_t hi)]
    refine (elem_moves hi _).trans ?_
    dsimp only
    have b1 := nB_le xs[i].region
    rw [s18 acc (by omega) hz.1.1 hz.1.2, Option.bind_some, s18 _ (by rw [List.length_append]; omega) hz.2.1 hz.2.2, Option.bind_some, inc_i hi hx, List.append_assoc]
    rfl
  · refine (g82L0_eq ..).trans ?_
    rw [if_neg (lss_f hi)]

theorem s25 (l : List Int) (xs : List Id) (hl : l.length + 11 + 33 * xs.length ≤ 79999999978) (hx : xs.length < 2 ^ 63) (h : ∀ x ∈ xs, x.Small) : g25 (byteCells l) (idCells xs) = some (byteCells (l ++ listB idB xs)) := by
  have h1 := nB_le (xs.length : Int)
  refine (g25_eq ..).trans ?_
  rw [ids_len, s21 l (by omega) (by omega) (by omega), Option.bind_some]
  unfold listB
  rw [← List.append_assoc]
  refine scan_app (F := fun k a i => g25L0 k a (idCells xs) i) (l := xs) idB 33 79999999978 hx (fun x _ => idB_le x) (fun k i acc hi ha => ?_) (fun k i acc hi => ?_) _ (by rw [List.length_append]; omega)
  · refine (g25L0_eq ..).trans ?_
    have hz := h _ (List.getElem_mem hi)
    rw [ids_len, if_pos (lss_t hi)]
    refine (elem_ids hi _).trans ?_
    dsimp only
    rw [s24' acc (by omega) hz, Option.bind_some, inc_i hi hx]
  · refine (g25L0_eq ..).trans ?_
    rw [ids_len, if_neg (lss_f hi)]

theorem s26 (l : List Int) (xs : List Int) (hl : l.length + 11 + 11 * xs.length ≤ 79999999978) (hx : xs.length < 2 ^ 63) (h : ∀ x ∈ xs, 0 ≤ x ∧ x < 2 ^ 63) : g26 (byteCells l) (intCells xs) = some (byteCells (l ++ listB nB xs)) := by
  have h1 := nB_le (xs.length : Int)
  refine (g26_eq ..).trans ?_
  rw [ints_len, s21 l (by omega) (by omega) (by omega), Option.bind_some]
  unfold listB
  rw [← List.append_assoc]
  refine scan_app (F := fun k a i => g26L0 k a (intCells xs) i) (l := xs) nB 11 79999999978 hx (fun x _ => nB_le x) (fun k i acc hi ha => ?_) (fun k i acc hi => ?_) _ (by rw [List.length_append]; omega)
  · refine (g26L0_eq ..).trans ?_
    have hz := h _ (List.getElem_mem hi)
    rw [ints_len, if_pos (lss_t hi)]
    refine (elem_ints hi _).trans ?_
    rw [s21 acc (by omega) hz.1 hz.2, Option.bind_some, inc_i hi hx]
  · refine (g26L0_eq ..).trans ?_
    rw [ints_len, if_neg (lss_f hi)]

end Go.Proofs.YtceopohbfkamiaaGreat
end

section
namespace Go.Proofs.YtceopohbfkamiaaGreat
open Go Go.AM
set_option linter.unusedSimpArgs false
set_option linter.unusedVariables false
set_option maxRecDepth 100000

theorem scan_appG {α γ : Type} {F : Nat → List (List AV) → Int → Option γ} {l : List α} (c : α → List Int) (G : List Int → Option γ) (b lim : Nat) (hn : l.length < 2 ^ 63) (hB : ∀ x ∈ l, (c x).length ≤ b)
    (step : ∀ (k i : Nat) (acc : List Int) (hi : i < l.length), acc.length ≤ lim → F (k + 1) (byteCells acc) (i : Int) = F k (byteCells (acc ++ c l[i])) ((i + 1 : Nat) : Int))
    (last : ∀ (k i : Nat) (acc : List Int), l.length ≤ i → acc.length ≤ lim → F (k + 1) (byteCells acc) (i : Int) = G acc) (acc : List Int) (ha : acc.length + b * l.length ≤ lim) :
    F FUEL (byteCells acc) 0 = G (acc ++ (l.map c).flatten) := by
  have key : ∀ (j i fuel : Nat) (acc : List Int), l.length ≤ i + j → j < fuel → acc.length + b * (l.length - i) ≤ lim → F fuel (byteCells acc) (i : Int) = G (acc ++ ((l.drop i).map c).flatten) := by
    intro j
    induction j with
    | zero =>
      intro i fuel acc h hf hb
      obtain ⟨f, rfl⟩ : ∃ f, fuel = f + 1 := ⟨fuel - 1, by omega⟩
      rw [last f i acc (by omega) (by omega), List.drop_of_length_le (by omega)]
      simp
    | succ j ih =>
      intro i fuel acc h hf hb
      obtain ⟨f, rfl⟩ : ∃ f, fuel = f + 1 := ⟨fuel - 1, by omega⟩
      by_cases hi : i < l.length
      · have hx := hB _ (List.getElem_mem hi)
        have hm : b * (l.length - i) = b + b * (l.length - (i + 1)) := by
          rw [show l.length - i = (l.length - (i + 1)) + 1 by omega, Nat.mul_add, Nat.mul_one, Nat.add_comm]
        rw [step f i acc hi (by omega), ih (i + 1) f (acc ++ c l[i]) (by omega) (by omega) (by rw [List.length_append]; omega), List.drop_eq_getElem_cons hi, List.map_cons, List.flatten_cons, List.append_assoc]
      · rw [last f i acc (by omega) (by omega), List.drop_of_length_le (by omega)]
        simp
  have := key l.length 0 FUEL acc (by omega) (by have := fuel63 hn; omega) (by simpa using ha)
  simpa using this

def slotB (s : Slot) : List Int := nodeL s.node ++ nB s.op ++ idB s.lock
def markB (m : Mark) : List Int := nB m.region ++ idB m.op
def ansB (a : Ans) : List Int := nB a.op ++ nB a.err
def entB (e : Entry) : List Int := nB e.core ++ nB e.slot ++ nodeL e.node

theorem slotB_le (s : Slot) : (slotB s).length ≤ 455 := by
  have h1 := nodeL_le s.node
  have h2 := nB_le s.op
  have h3 := idB_le s.lock
  unfold slotB
  rw [List.length_append, List.length_append]
  omega
theorem markB_le (m : Mark) : (markB m).length ≤ 44 := by
  have h2 := nB_le m.region
  have h3 := idB_le m.op
  unfold markB
  rw [List.length_append]
  omega
theorem ansB_le (a : Ans) : (ansB a).length ≤ 22 := by
  have h2 := nB_le a.op
  have h3 := nB_le a.err
  unfold ansB
  rw [List.length_append]
  omega
theorem entB_le (e : Entry) : (entB e).length ≤ 433 := by
  have h1 := nodeL_le e.node
  have h2 := nB_le e.core
  have h3 := nB_le e.slot
  unfold entB
  rw [List.length_append, List.length_append]
  omega

def N63 (z : Int) : Prop := 0 ≤ z ∧ z < 2 ^ 63

/-- A state that can be written. -/
structure State.Good (s : State) : Prop where
  slots : s.slots.length ≤ 2097152
  pending : s.pending.length ≤ 2097152
  marks : s.marks.length ≤ 2097152
  answers : s.answers.length ≤ 2097152
  entries : s.entries.length ≤ 2097152
  commits : s.commits.length ≤ 2097152
  slot : ∀ x ∈ s.slots, x.node.path.length < 2 ^ 63 ∧ N63 x.op ∧ x.lock.Small
  req : ∀ x ∈ s.pending, x.Good
  mark : ∀ x ∈ s.marks, N63 x.region ∧ x.op.Small
  ans : ∀ x ∈ s.answers, N63 x.op ∧ N63 x.err
  entry : ∀ x ∈ s.entries, N63 x.core ∧ N63 x.slot ∧ x.node.path.length < 2 ^ 63
  commit : ∀ x ∈ s.commits, x.Small

def stateB (s : State) : List Int := listB slotB s.slots ++ (listB reqB s.pending ++ (listB markB s.marks ++ (listB ansB s.answers ++ (listB entB s.entries ++ listB idB s.commits))))

theorem listB_le {α : Type} (c : α → List Int) (b n : Nat) (l : List α) (h : ∀ x ∈ l, (c x).length ≤ b) (hn : l.length ≤ n) : (listB c l).length ≤ 11 + b * n := by
  have h1 := nB_le (l.length : Int)
  have h2 := flat_le c b l h
  have h3 : b * l.length ≤ b * n := Nat.mul_le_mul_left b hn
  unfold listB
  rw [List.length_append]
  omega

theorem stateB_le (s : State) (h : s.Good) : (stateB s).length ≤ 3400000000 := by
  have h1 := listB_le slotB 455 _ s.slots (fun x _ => slotB_le x) h.slots
  have h2 := listB_le reqB 598 _ s.pending (fun x _ => reqB_le x) h.pending
  have h3 := listB_le markB 44 _ s.marks (fun x _ => markB_le x) h.marks
  have h4 := listB_le ansB 22 _ s.answers (fun x _ => ansB_le x) h.answers
  have h5 := listB_le entB 433 _ s.entries (fun x _ => entB_le x) h.entries
  have h6 := listB_le idB 33 _ s.commits (fun x _ => idB_le x) h.commits
  unfold stateB
  rw [List.length_append, List.length_append, List.length_append, List.length_append, List.length_append]
  omega

theorem s81 (l : List Int) (hl : l.length ≤ 60000000000) (s : State) (h : s.Good) : g81 (byteCells l) (s.slots.map slotc) (s.pending.map reqc) (s.marks.map markc) (s.answers.map ansc) (s.entries.map entryc) (idCells s.commits) = some (byteCells (l ++ stateB s)) := by
  have L0 : ∀ acc : List Int, acc.length ≤ 70000000000 → g81L0 FUEL (byteCells acc) (s.slots.map slotc) (s.pending.map reqc) (s.marks.map markc) (s.answers.map ansc) (s.entries.map entryc) (idCells s.commits) (s.entries.map entryc) (s.entries.length : Int) 0 = some (byteCells ((acc ++ (s.entries.map entB).flatten) ++ (listB idB s.commits))) := by
    intro acc hacc
    have hln := h.entries
    have hn : s.entries.length < 2 ^ 63 := by omega
    refine scan_appG (F := fun k a i => g81L0 k a (s.slots.map slotc) (s.pending.map reqc) (s.marks.map markc) (s.answers.map ansc) (s.entries.map entryc) (idCells s.commits) (s.entries.map entryc) (s.entries.length : Int) i) (l := s.entries) entB (fun acc => some (byteCells (acc ++ (listB idB s.commits)))) 433 71900000000 hn (fun x _ => entB_le x) (fun k i acc hi ha => ?_) (fun k i acc hi ha => ?_) acc (by omega)
    · refine (g81L0_eq ..).trans ?_
      have hz := h.entry _ (List.getElem_mem hi)
      have b1 := nB_le s.entries[i].core
      have b2 := nB_le s.entries[i].slot
      rw [if_pos (lss_t hi)]
      refine (elem_entries hi _).trans ?_
      try simp only [elem_entries hi, entryV, d2, d4, d8, d16]
      rw [s18 acc (by omega) hz.1.1 hz.1.2, Option.bind_some, s18 _ (by rw [List.length_append]; omega) hz.2.1.1 hz.2.1.2, Option.bind_some, s146 _ (by rw [List.length_append, List.length_append]; omega) _ hz.2.2, Option.bind_some, inc_i hi hn]
      try simp only [entB, List.append_assoc]
    · refine (g81L0_eq ..).trans ?_
      rw [if_neg (lss_f hi)]
      rw [s77 acc s.commits (by have := h.commits; omega) (by have := h.commits; omega) h.commit]
      rfl
  have L1 : ∀ acc : List Int, acc.length ≤ 68000000000 → g81L1 FUEL (byteCells acc) (s.slots.map slotc) (s.pending.map reqc) (s.marks.map markc) (s.answers.map ansc) (s.entries.map entryc) (idCells s.commits) (s.answers.map ansc) (s.answers.length : Int) 0 = some (byteCells ((acc ++ (s.answers.map ansB).flatten) ++ (listB entB s.entries ++ (listB idB s.commits)))) := by
    intro acc hacc
    have hln := h.answers
    have hn : s.answers.length < 2 ^ 63 := by omega
    refine scan_appG (F := fun k a i => g81L1 k a (s.slots.map slotc) (s.pending.map reqc) (s.marks.map markc) (s.answers.map ansc) (s.entries.map entryc) (idCells s.commits) (s.answers.map ansc) (s.answers.length : Int) i) (l := s.answers) ansB (fun acc => some (byteCells (acc ++ (listB entB s.entries ++ (listB idB s.commits))))) 22 69900000000 hn (fun x _ => ansB_le x) (fun k i acc hi ha => ?_) (fun k i acc hi ha => ?_) acc (by omega)
    · refine (g81L1_eq ..).trans ?_
      have hz := h.ans _ (List.getElem_mem hi)
      have b1 := nB_le s.answers[i].op
      rw [if_pos (lss_t hi)]
      refine (elem_anss hi _).trans ?_
      try simp only [elem_anss hi, d2, d4, d8, d16]
      rw [s18 acc (by omega) hz.1.1 hz.1.2, Option.bind_some, s18 _ (by rw [List.length_append]; omega) hz.2.1 hz.2.2, Option.bind_some, inc_i hi hn]
      try simp only [ansB, List.append_assoc]
    · refine (g81L1_eq ..).trans ?_
      rw [if_neg (lss_f hi)]
      have b1 := nB_le (s.entries.length : Int)
      have b2 := h.entries
      rw [List.length_map, s18 acc (by omega) (by omega) (by omega), Option.bind_some, L0 _ (by rw [List.length_append]; omega)]
      simp only [listB, List.append_assoc]
  have L2 : ∀ acc : List Int, acc.length ≤ 66000000000 → g81L2 FUEL (byteCells acc) (s.slots.map slotc) (s.pending.map reqc) (s.marks.map markc) (s.answers.map ansc) (s.entries.map entryc) (idCells s.commits) (s.marks.map markc) (s.marks.length : Int) 0 = some (byteCells ((acc ++ (s.marks.map markB).flatten) ++ (listB ansB s.answers ++ (listB entB s.entries ++ (listB idB s.commits))))) := by
    intro acc hacc
    have hln := h.marks
    have hn : s.marks.length < 2 ^ 63 := by omega
    refine scan_appG (F := fun k a i => g81L2 k a (s.slots.map slotc) (s.pending.map reqc) (s.marks.map markc) (s.answers.map ansc) (s.entries.map entryc) (idCells s.commits) (s.marks.map markc) (s.marks.length : Int) i) (l := s.marks) markB (fun acc => some (byteCells (acc ++ (listB ansB s.answers ++ (listB entB s.entries ++ (listB idB s.commits)))))) 44 67900000000 hn (fun x _ => markB_le x) (fun k i acc hi ha => ?_) (fun k i acc hi ha => ?_) acc (by omega)
    · refine (g81L2_eq ..).trans ?_
      have hz := h.mark _ (List.getElem_mem hi)
      have b1 := nB_le s.marks[i].region
      rw [if_pos (lss_t hi)]
      refine (elem_marks hi _).trans ?_
      try simp only [elem_marks hi, d2, d4, d8, d16]
      rw [s18 acc (by omega) hz.1.1 hz.1.2, Option.bind_some, s74 _ (by rw [List.length_append]; omega) hz.2, Option.bind_some, inc_i hi hn]
      try simp only [markB, List.append_assoc]
    · refine (g81L2_eq ..).trans ?_
      rw [if_neg (lss_f hi)]
      have b1 := nB_le (s.answers.length : Int)
      have b2 := h.answers
      rw [List.length_map, s18 acc (by omega) (by omega) (by omega), Option.bind_some, L1 _ (by rw [List.length_append]; omega)]
      simp only [listB, List.append_assoc]
  have L3 : ∀ acc : List Int, acc.length ≤ 64000000000 → g81L3 FUEL (byteCells acc) (s.slots.map slotc) (s.pending.map reqc) (s.marks.map markc) (s.answers.map ansc) (s.entries.map entryc) (idCells s.commits) (s.pending.map reqc) (s.pending.length : Int) 0 = some (byteCells ((acc ++ (s.pending.map reqB).flatten) ++ (listB markB s.marks ++ (listB ansB s.answers ++ (listB entB s.entries ++ (listB idB s.commits)))))) := by
    intro acc hacc
    have hln := h.pending
    have hn : s.pending.length < 2 ^ 63 := by omega
    refine scan_appG (F := fun k a i => g81L3 k a (s.slots.map slotc) (s.pending.map reqc) (s.marks.map markc) (s.answers.map ansc) (s.entries.map entryc) (idCells s.commits) (s.pending.map reqc) (s.pending.length : Int) i) (l := s.pending) reqB (fun acc => some (byteCells (acc ++ (listB markB s.marks ++ (listB ansB s.answers ++ (listB entB s.entries ++ (listB idB s.commits))))))) 598 65900000000 hn (fun x _ => reqB_le x) (fun k i acc hi ha => ?_) (fun k i acc hi ha => ?_) acc (by omega)
    · refine (g81L3_eq ..).trans ?_
      have hz := h.req _ (List.getElem_mem hi)
      skip
      rw [if_pos (lss_t hi)]
      refine (elem_reqs hi _).trans ?_
      try simp only [elem_reqs hi, reqV, d2, d4, d8, d16]
      rw [s73 acc (by omega) _ hz, Option.bind_some, inc_i hi hn]
      try simp only [List.append_assoc]
    · refine (g81L3_eq ..).trans ?_
      rw [if_neg (lss_f hi)]
      have b1 := nB_le (s.marks.length : Int)
      have b2 := h.marks
      rw [List.length_map, s18 acc (by omega) (by omega) (by omega), Option.bind_some, L2 _ (by rw [List.length_append]; omega)]
      simp only [listB, List.append_assoc]
  have L4 : ∀ acc : List Int, acc.length ≤ 62000000000 → g81L4 FUEL (byteCells acc) (s.slots.map slotc) (s.pending.map reqc) (s.marks.map markc) (s.answers.map ansc) (s.entries.map entryc) (idCells s.commits) (s.slots.map slotc) (s.slots.length : Int) 0 = some (byteCells ((acc ++ (s.slots.map slotB).flatten) ++ (listB reqB s.pending ++ (listB markB s.marks ++ (listB ansB s.answers ++ (listB entB s.entries ++ (listB idB s.commits))))))) := by
    intro acc hacc
    have hln := h.slots
    have hn : s.slots.length < 2 ^ 63 := by omega
    refine scan_appG (F := fun k a i => g81L4 k a (s.slots.map slotc) (s.pending.map reqc) (s.marks.map markc) (s.answers.map ansc) (s.entries.map entryc) (idCells s.commits) (s.slots.map slotc) (s.slots.length : Int) i) (l := s.slots) slotB (fun acc => some (byteCells (acc ++ (listB reqB s.pending ++ (listB markB s.marks ++ (listB ansB s.answers ++ (listB entB s.entries ++ (listB idB s.commits)))))))) 455 63900000000 hn (fun x _ => slotB_le x) (fun k i acc hi ha => ?_) (fun k i acc hi ha => ?_) acc (by omega)
    · refine (g81L4_eq ..).trans ?_
      have hz := h.slot _ (List.getElem_mem hi)
      have b1 := nodeL_le s.slots[i].node
      have b2 := nB_le s.slots[i].op
      rw [if_pos (lss_t hi)]
      refine (elem_slots hi _).trans ?_
      try simp only [elem_slots hi, slotV, d2, d4, d8, d16]
      rw [s146 acc (by omega) _ hz.1, Option.bind_some, s18 _ (by rw [List.length_append]; omega) hz.2.1.1 hz.2.1.2, Option.bind_some, s74 _ (by rw [List.length_append, List.length_append]; omega) hz.2.2, Option.bind_some, inc_i hi hn]
      try simp only [slotB, List.append_assoc]
    · refine (g81L4_eq ..).trans ?_
      rw [if_neg (lss_f hi)]
      have b1 := nB_le (s.pending.length : Int)
      have b2 := h.pending
      rw [List.length_map, s18 acc (by omega) (by omega) (by omega), Option.bind_some, L3 _ (by rw [List.length_append]; omega)]
      simp only [listB, List.append_assoc]
  have hln := h.slots
  have b1 := nB_le (s.slots.length : Int)
  refine (g81_eq ..).trans ?_
  rw [List.length_map, s18 l (by omega) (by omega) (by omega), Option.bind_some, L4 _ (by rw [List.length_append]; omega)]
  simp only [stateB, listB, List.append_assoc]

theorem s28 (l : List Int) (hl : l.length ≤ 60000000000) (s : State) (h : s.Good) : g28 (byteCells l) (s.slots.map slotc) (s.pending.map reqc) (s.marks.map markc) (s.answers.map ansc) (s.entries.map entryc) (idCells s.commits) = some (byteCells (l ++ stateB s)) := by
  have L0 : ∀ acc : List Int, acc.length ≤ 70000000000 → g28L0 FUEL (byteCells acc) (s.slots.map slotc) (s.pending.map reqc) (s.marks.map markc) (s.answers.map ansc) (s.entries.map entryc) (idCells s.commits) 0 = some (byteCells ((acc ++ (s.entries.map entB).flatten) ++ (listB idB s.commits))) := by
    intro acc hacc
    have hln := h.entries
    have hn : s.entries.length < 2 ^ 63 := by omega
    refine scan_appG (F := fun k a i => g28L0 k a (s.slots.map slotc) (s.pending.map reqc) (s.marks.map markc) (s.answers.map ansc) (s.entries.map entryc) (idCells s.commits) i) (l := s.entries) entB (fun acc => some (byteCells (acc ++ (listB idB s.commits)))) 433 71900000000 hn (fun x _ => entB_le x) (fun k i acc hi ha => ?_) (fun k i acc hi ha => ?_) acc (by omega)
    · refine (g28L0_eq ..).trans ?_
      have hz := h.entry _ (List.getElem_mem hi)
      have b1 := nB_le s.entries[i].core
      have b2 := nB_le s.entries[i].slot
      rw [List.length_map, if_pos (lss_t hi)]
      refine (elem_entries hi _).trans ?_
      try simp only [elem_entries hi, entryV, d2, d4, d8, d16]
      rw [s21 acc (by omega) hz.1.1 hz.1.2, Option.bind_some, s21 _ (by rw [List.length_append]; omega) hz.2.1.1 hz.2.1.2, Option.bind_some, s30 _ (by rw [List.length_append, List.length_append]; omega) _ hz.2.2, Option.bind_some, inc_i hi hn]
      try simp only [entB, List.append_assoc]
    · refine (g28L0_eq ..).trans ?_
      rw [List.length_map, if_neg (lss_f hi)]
      rw [s25 acc s.commits (by have := h.commits; omega) (by have := h.commits; omega) h.commit]
      rfl
  have L1 : ∀ acc : List Int, acc.length ≤ 68000000000 → g28L1 FUEL (byteCells acc) (s.slots.map slotc) (s.pending.map reqc) (s.marks.map markc) (s.answers.map ansc) (s.entries.map entryc) (idCells s.commits) 0 = some (byteCells ((acc ++ (s.answers.map ansB).flatten) ++ (listB entB s.entries ++ (listB idB s.commits)))) := by
    intro acc hacc
    have hln := h.answers
    have hn : s.answers.length < 2 ^ 63 := by omega
    refine scan_appG (F := fun k a i => g28L1 k a (s.slots.map slotc) (s.pending.map reqc) (s.marks.map markc) (s.answers.map ansc) (s.entries.map entryc) (idCells s.commits) i) (l := s.answers) ansB (fun acc => some (byteCells (acc ++ (listB entB s.entries ++ (listB idB s.commits))))) 22 69900000000 hn (fun x _ => ansB_le x) (fun k i acc hi ha => ?_) (fun k i acc hi ha => ?_) acc (by omega)
    · refine (g28L1_eq ..).trans ?_
      have hz := h.ans _ (List.getElem_mem hi)
      have b1 := nB_le s.answers[i].op
      rw [List.length_map, if_pos (lss_t hi)]
      refine (elem_anss hi _).trans ?_
      try simp only [elem_anss hi, d2, d4, d8, d16]
      rw [s21 acc (by omega) hz.1.1 hz.1.2, Option.bind_some, s21 _ (by rw [List.length_append]; omega) hz.2.1 hz.2.2, Option.bind_some, inc_i hi hn]
      try simp only [ansB, List.append_assoc]
    · refine (g28L1_eq ..).trans ?_
      rw [List.length_map, if_neg (lss_f hi)]
      have b1 := nB_le (s.entries.length : Int)
      have b2 := h.entries
      rw [List.length_map, s21 acc (by omega) (by omega) (by omega), Option.bind_some, L0 _ (by rw [List.length_append]; omega)]
      simp only [listB, List.append_assoc]
  have L2 : ∀ acc : List Int, acc.length ≤ 66000000000 → g28L2 FUEL (byteCells acc) (s.slots.map slotc) (s.pending.map reqc) (s.marks.map markc) (s.answers.map ansc) (s.entries.map entryc) (idCells s.commits) 0 = some (byteCells ((acc ++ (s.marks.map markB).flatten) ++ (listB ansB s.answers ++ (listB entB s.entries ++ (listB idB s.commits))))) := by
    intro acc hacc
    have hln := h.marks
    have hn : s.marks.length < 2 ^ 63 := by omega
    refine scan_appG (F := fun k a i => g28L2 k a (s.slots.map slotc) (s.pending.map reqc) (s.marks.map markc) (s.answers.map ansc) (s.entries.map entryc) (idCells s.commits) i) (l := s.marks) markB (fun acc => some (byteCells (acc ++ (listB ansB s.answers ++ (listB entB s.entries ++ (listB idB s.commits)))))) 44 67900000000 hn (fun x _ => markB_le x) (fun k i acc hi ha => ?_) (fun k i acc hi ha => ?_) acc (by omega)
    · refine (g28L2_eq ..).trans ?_
      have hz := h.mark _ (List.getElem_mem hi)
      have b1 := nB_le s.marks[i].region
      rw [List.length_map, if_pos (lss_t hi)]
      refine (elem_marks hi _).trans ?_
      try simp only [elem_marks hi, d2, d4, d8, d16]
      rw [s21 acc (by omega) hz.1.1 hz.1.2, Option.bind_some, s24' _ (by rw [List.length_append]; omega) hz.2, Option.bind_some, inc_i hi hn]
      try simp only [markB, List.append_assoc]
    · refine (g28L2_eq ..).trans ?_
      rw [List.length_map, if_neg (lss_f hi)]
      have b1 := nB_le (s.answers.length : Int)
      have b2 := h.answers
      rw [List.length_map, s21 acc (by omega) (by omega) (by omega), Option.bind_some, L1 _ (by rw [List.length_append]; omega)]
      simp only [listB, List.append_assoc]
  have L3 : ∀ acc : List Int, acc.length ≤ 64000000000 → g28L3 FUEL (byteCells acc) (s.slots.map slotc) (s.pending.map reqc) (s.marks.map markc) (s.answers.map ansc) (s.entries.map entryc) (idCells s.commits) 0 = some (byteCells ((acc ++ (s.pending.map reqB).flatten) ++ (listB markB s.marks ++ (listB ansB s.answers ++ (listB entB s.entries ++ (listB idB s.commits)))))) := by
    intro acc hacc
    have hln := h.pending
    have hn : s.pending.length < 2 ^ 63 := by omega
    refine scan_appG (F := fun k a i => g28L3 k a (s.slots.map slotc) (s.pending.map reqc) (s.marks.map markc) (s.answers.map ansc) (s.entries.map entryc) (idCells s.commits) i) (l := s.pending) reqB (fun acc => some (byteCells (acc ++ (listB markB s.marks ++ (listB ansB s.answers ++ (listB entB s.entries ++ (listB idB s.commits))))))) 598 65900000000 hn (fun x _ => reqB_le x) (fun k i acc hi ha => ?_) (fun k i acc hi ha => ?_) acc (by omega)
    · refine (g28L3_eq ..).trans ?_
      have hz := h.req _ (List.getElem_mem hi)
      skip
      rw [List.length_map, if_pos (lss_t hi)]
      refine (elem_reqs hi _).trans ?_
      try simp only [elem_reqs hi, reqV, d2, d4, d8, d16]
      rw [s22 acc (by omega) _ hz, Option.bind_some, inc_i hi hn]
      try simp only [List.append_assoc]
    · refine (g28L3_eq ..).trans ?_
      rw [List.length_map, if_neg (lss_f hi)]
      have b1 := nB_le (s.marks.length : Int)
      have b2 := h.marks
      rw [List.length_map, s21 acc (by omega) (by omega) (by omega), Option.bind_some, L2 _ (by rw [List.length_append]; omega)]
      simp only [listB, List.append_assoc]
  have L4 : ∀ acc : List Int, acc.length ≤ 62000000000 → g28L4 FUEL (byteCells acc) (s.slots.map slotc) (s.pending.map reqc) (s.marks.map markc) (s.answers.map ansc) (s.entries.map entryc) (idCells s.commits) 0 = some (byteCells ((acc ++ (s.slots.map slotB).flatten) ++ (listB reqB s.pending ++ (listB markB s.marks ++ (listB ansB s.answers ++ (listB entB s.entries ++ (listB idB s.commits))))))) := by
    intro acc hacc
    have hln := h.slots
    have hn : s.slots.length < 2 ^ 63 := by omega
    refine scan_appG (F := fun k a i => g28L4 k a (s.slots.map slotc) (s.pending.map reqc) (s.marks.map markc) (s.answers.map ansc) (s.entries.map entryc) (idCells s.commits) i) (l := s.slots) slotB (fun acc => some (byteCells (acc ++ (listB reqB s.pending ++ (listB markB s.marks ++ (listB ansB s.answers ++ (listB entB s.entries ++ (listB idB s.commits)))))))) 455 63900000000 hn (fun x _ => slotB_le x) (fun k i acc hi ha => ?_) (fun k i acc hi ha => ?_) acc (by omega)
    · refine (g28L4_eq ..).trans ?_
      have hz := h.slot _ (List.getElem_mem hi)
      have b1 := nodeL_le s.slots[i].node
      have b2 := nB_le s.slots[i].op
      rw [List.length_map, if_pos (lss_t hi)]
      refine (elem_slots hi _).trans ?_
      try simp only [elem_slots hi, slotV, d2, d4, d8, d16]
      rw [s30 acc (by omega) _ hz.1, Option.bind_some, s21 _ (by rw [List.length_append]; omega) hz.2.1.1 hz.2.1.2, Option.bind_some, s24' _ (by rw [List.length_append, List.length_append]; omega) hz.2.2, Option.bind_some, inc_i hi hn]
      try simp only [slotB, List.append_assoc]
    · refine (g28L4_eq ..).trans ?_
      rw [List.length_map, if_neg (lss_f hi)]
      have b1 := nB_le (s.pending.length : Int)
      have b2 := h.pending
      rw [List.length_map, s21 acc (by omega) (by omega) (by omega), Option.bind_some, L3 _ (by rw [List.length_append]; omega)]
      simp only [listB, List.append_assoc]
  have hln := h.slots
  have b1 := nB_le (s.slots.length : Int)
  refine (g28_eq ..).trans ?_
  rw [List.length_map, s21 l (by omega) (by omega) (by omega), Option.bind_some, L4 _ (by rw [List.length_append]; omega)]
  simp only [stateB, listB, List.append_assoc]

structure View.Good (v : View) : Prop where
  num : N63 v.number
  members : v.members.length ≤ 2097152
  owners : v.owners.length ≤ 2097152
  member : ∀ x ∈ v.members, 0 ≤ x ∧ x < 2 ^ 63
  owner : ∀ x ∈ v.owners, 0 ≤ x ∧ x < 2 ^ 63

def viewB (v : View) : List Int := nB v.number ++ (listB nB v.members ++ listB nB v.owners)
theorem viewB_le (v : View) (h : v.Good) : (viewB v).length ≤ 50000000 := by
  have h1 := nB_le v.number
  have h2 := listB_le nB 11 _ v.members (fun x _ => nB_le x) h.members
  have h3 := listB_le nB 11 _ v.owners (fun x _ => nB_le x) h.owners
  unfold viewB
  rw [List.length_append, List.length_append]
  omega

theorem s80 (l : List Int) (hl : l.length ≤ 70000000000) (v : View) (h : v.Good) : g80 (byteCells l) v.number (intCells v.members) (intCells v.owners) = some (byteCells (l ++ viewB v)) := by
  have h1 := nB_le v.number
  have h2 := listB_le nB 11 _ v.members (fun x _ => nB_le x) h.members
  have h3 := h.members
  have h4 := h.owners
  rw [g80_eq, s18 l (by omega) h.num.1 h.num.2, Option.bind_some, s78 _ _ (by rw [List.length_append]; omega) (by omega) h.member, Option.bind_some, s78 _ _ (by rw [List.length_append, List.length_append]; omega) (by omega) h.owner, Option.bind_some]
  simp only [viewB, List.append_assoc]

theorem s29 (l : List Int) (hl : l.length ≤ 70000000000) (v : View) (h : v.Good) : g29 (byteCells l) v.number (intCells v.members) (intCells v.owners) = some (byteCells (l ++ viewB v)) := by
  have h1 := nB_le v.number
  have h2 := listB_le nB 11 _ v.members (fun x _ => nB_le x) h.members
  have h3 := h.members
  have h4 := h.owners
  rw [g29_eq, s21 l (by omega) h.num.1 h.num.2, Option.bind_some, s26 _ _ (by rw [List.length_append]; omega) (by omega) h.member, Option.bind_some, s26 _ _ (by rw [List.length_append, List.length_append]; omega) (by omega) h.owner, Option.bind_some]
  simp only [viewB, List.append_assoc]

structure Report.Good (r : Report) : Prop where
  core : N63 r.core
  view : r.view.Good
  state : r.state.Good
  next : r.next.Good
  proposal : r.proposal.Good

def repB (r : Report) : List Int := nB r.core ++ (viewB r.view ++ (stateB r.state ++ (bB r.ready ++ (viewB r.next ++ stateB r.proposal))))
theorem bB_le (b : Bool) : (bB b).length ≤ 11 := by
  unfold bB
  split
  · exact nB_le 1
  · exact nB_le 0
theorem repB_le (r : Report) (h : r.Good) : (repB r).length ≤ 7000000000 := by
  have h1 := nB_le r.core
  have h2 := viewB_le _ h.view
  have h3 := stateB_le _ h.state
  have h4 := bB_le r.ready
  have h5 := viewB_le _ h.next
  have h6 := stateB_le _ h.proposal
  unfold repB
  rw [List.length_append, List.length_append, List.length_append, List.length_append, List.length_append]
  omega

theorem s79 (l : List Int) (hl : l.length ≤ 50000000000) (r : Report) (h : r.Good) : g79 (byteCells l) r.core r.view.number (intCells r.view.members) (intCells r.view.owners) (r.state.slots.map slotc) (r.state.pending.map reqc) (r.state.marks.map markc) (r.state.answers.map ansc) (r.state.entries.map entryc) (idCells r.state.commits) r.ready r.next.number (intCells r.next.members) (intCells r.next.owners) (r.proposal.slots.map slotc) (r.proposal.pending.map reqc) (r.proposal.marks.map markc) (r.proposal.answers.map ansc) (r.proposal.entries.map entryc) (idCells r.proposal.commits) = some (byteCells (l ++ repB r)) := by
  have h1 := nB_le r.core
  have h2 := viewB_le _ h.view
  have h3 := stateB_le _ h.state
  have h4 := bB_le r.ready
  have h5 := viewB_le _ h.next
  rw [g79_eq, s18 l (by omega) h.core.1 h.core.2, Option.bind_some, s80 _ (by rw [List.length_append]; omega) _ h.view, Option.bind_some, s81 _ (by rw [List.length_append, List.length_append]; omega) _ h.state, Option.bind_some, s75 _ (by rw [List.length_append, List.length_append, List.length_append]; omega), Option.bind_some, s80 _ (by rw [List.length_append, List.length_append, List.length_append, List.length_append]; omega) _ h.next, Option.bind_some, s81 _ (by rw [List.length_append, List.length_append, List.length_append, List.length_append, List.length_append]; omega) _ h.proposal, Option.bind_some]
  simp only [repB, List.append_assoc]

theorem s27 (l : List Int) (hl : l.length ≤ 50000000000) (r : Report) (h : r.Good) : g27 (byteCells l) r.core r.view.number (intCells r.view.members) (intCells r.view.owners) (r.state.slots.map slotc) (r.state.pending.map reqc) (r.state.marks.map markc) (r.state.answers.map ansc) (r.state.entries.map entryc) (idCells r.state.commits) r.ready r.next.number (intCells r.next.members) (intCells r.next.owners) (r.proposal.slots.map slotc) (r.proposal.pending.map reqc) (r.proposal.marks.map markc) (r.proposal.answers.map ansc) (r.proposal.entries.map entryc) (idCells r.proposal.commits) = some (byteCells (l ++ repB r)) := by
  have h1 := nB_le r.core
  have h2 := viewB_le _ h.view
  have h3 := stateB_le _ h.state
  have h4 := bB_le r.ready
  have h5 := viewB_le _ h.next
  rw [g27_eq, s21 l (by omega) h.core.1 h.core.2, Option.bind_some, s29 _ (by rw [List.length_append]; omega) _ h.view, Option.bind_some, s28 _ (by rw [List.length_append, List.length_append]; omega) _ h.state, Option.bind_some, s23 _ (by rw [List.length_append, List.length_append, List.length_append]; omega), Option.bind_some, s29 _ (by rw [List.length_append, List.length_append, List.length_append, List.length_append]; omega) _ h.next, Option.bind_some, s28 _ (by rw [List.length_append, List.length_append, List.length_append, List.length_append, List.length_append]; omega) _ h.proposal, Option.bind_some]
  simp only [repB, List.append_assoc]

end Go.Proofs.YtceopohbfkamiaaGreat
end
