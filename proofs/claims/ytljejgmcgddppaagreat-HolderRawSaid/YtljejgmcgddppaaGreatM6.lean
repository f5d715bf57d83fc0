/- H18j, H24a, H24c, H24d, L23a, L23b, L23c, L23d: texts of the proof, put together. -/
import Derived.Test.YtljejgmcgddppaaGreatM5
import Derived.Test.YtljejgmcgddppaaGreatF23e

section
namespace Go.Proofs.YtljejgmcgddppaaGreat
open Go Go.AM
set_option linter.unusedSimpArgs false
set_option linter.unusedVariables false
set_option maxRecDepth 100000
theorem l56 (m x : Msg) (h : m.Fits) (hx : x.Fits) : ∀ (j i fuel : Nat) (ok : Bool), m.nodes.length = i + j → j < fuel →
  g56L0 fuel m.kind m.view m.frm m.to m.round m.region m.slot m.op.core m.op.op m.op.part m.err m.settled m.req.id.core m.req.id.op m.req.id.part m.req.call.kind m.req.call.slot m.req.call.dest m.req.call.core m.req.call.mask m.req.call.object m.req.call.bits m.req.call.level m.req.call.offset m.req.call.count m.req.call.index m.req.call.addr m.req.region m.req.width m.req.src.id.core m.req.src.id.op m.req.src.id.part (idCells m.req.src.path) m.req.src.cap.kind m.req.src.cap.base m.req.src.cap.bits m.req.src.cap.rights m.req.src.cap.width m.req.src.cap.level m.req.src.cap.device (idCells m.ids) (m.nodes.map nodec) (intCells m.cores) (m.moves.map movec) m.base m.next.number (intCells m.next.members) (intCells m.next.owners) (m.state.slots.map slotc) (m.state.pending.map reqc) (m.state.marks.map markc) (m.state.answers.map ansc) (m.state.entries.map entryc) (idCells m.state.commits) m.report.core m.report.view.number (intCells m.report.view.members) (intCells m.report.view.owners) (m.report.state.slots.map slotc) (m.report.state.pending.map reqc) (m.report.state.marks.map markc) (m.report.state.answers.map ansc) (m.report.state.entries.map entryc) (idCells m.report.state.commits) m.report.ready m.report.next.number (intCells m.report.next.members) (intCells m.report.next.owners) (m.report.proposal.slots.map slotc) (m.report.proposal.pending.map reqc) (m.report.proposal.marks.map markc) (m.report.proposal.answers.map ansc) (m.report.proposal.entries.map entryc) (idCells m.report.proposal.commits) x.kind x.view x.frm x.to x.round x.region x.slot x.op.core x.op.op x.op.part x.err x.settled x.req.id.core x.req.id.op x.req.id.part x.req.call.kind x.req.call.slot x.req.call.dest x.req.call.core x.req.call.mask x.req.call.object x.req.call.bits x.req.call.level x.req.call.offset x.req.call.count x.req.call.index x.req.call.addr x.req.region x.req.width x.req.src.id.core x.req.src.id.op x.req.src.id.part (idCells x.req.src.path) x.req.src.cap.kind x.req.src.cap.base x.req.src.cap.bits x.req.src.cap.rights x.req.src.cap.width x.req.src.cap.level x.req.src.cap.device (idCells x.ids) (x.nodes.map nodec) (intCells x.cores) (x.moves.map movec) x.base x.next.number (intCells x.next.members) (intCells x.next.owners) (x.state.slots.map slotc) (x.state.pending.map reqc) (x.state.marks.map markc) (x.state.answers.map ansc) (x.state.entries.map entryc) (idCells x.state.commits) x.report.core x.report.view.number (intCells x.report.view.members) (intCells x.report.view.owners) (x.report.state.slots.map slotc) (x.report.state.pending.map reqc) (x.report.state.marks.map markc) (x.report.state.answers.map ansc) (x.report.state.entries.map entryc) (idCells x.report.state.commits) x.report.ready x.report.next.number (intCells x.report.next.members) (intCells x.report.next.owners) (x.report.proposal.slots.map slotc) (x.report.proposal.pending.map reqc) (x.report.proposal.marks.map markc) (x.report.proposal.answers.map ansc) (x.report.proposal.entries.map entryc) (idCells x.report.proposal.commits) ok (i : Int) = some (ok && ((m.nodes.drop i).all nodeOk && (regOk m.region && sameM m x))) := by
 intro j
 induction j with
 | zero =>
  intro i fuel ok hij hf
  obtain ⟨f, rfl⟩ : ∃ f, fuel = f + 1 := ⟨fuel - 1, by omega⟩
  refine (g56L0_eq ..).trans ?_
  rw [List.length_map, if_neg (lss_f (by omega)), List.drop_of_length_le (by omega)]
  cases ok with
  | false => rfl
  | true =>
   rw [if_pos rfl, s100, Option.bind_some, s62 m x h hx, Option.bind_some]
   cases regOk m.region <;> rfl
 | succ j ih =>
  intro i fuel ok hij hf
  obtain ⟨f, rfl⟩ : ∃ f, fuel = f + 1 := ⟨fuel - 1, by omega⟩
  have hi : i < m.nodes.length := by omega
  refine (g56L0_eq ..).trans ?_
  rw [List.length_map, if_pos (lss_t hi)]
  cases ok with
  | false => rfl
  | true =>
   rw [if_pos rfl]
   refine (elem_nodes hi _).trans ?_
   simp only [nodeV, d2, d4, d8, d16]
   rw [s87 _ (h.node _ (List.getElem_mem hi)), Option.bind_some, inc_i hi h.nodes, ih (i + 1) f _ (by omega) (by omega), List.drop_eq_getElem_cons hi, List.all_cons]
   cases nodeOk m.nodes[i] <;> rfl
theorem kne {a b : Int} (h : a ≠ b) : ¬ (cop .eql a b = true) := by simp only [CQ]; exact h
theorem keq {a b : Int} (h : a = b) : cop .eql a b = true := by simp only [CQ]; exact h
@[reducible] noncomputable def G10 (m : Msg) := g56 m.kind m.view m.frm m.to m.round m.region m.slot m.op.core m.op.op m.op.part m.err m.settled m.req.id.core m.req.id.op m.req.id.part m.req.call.kind m.req.call.slot m.req.call.dest m.req.call.core m.req.call.mask m.req.call.object m.req.call.bits m.req.call.level m.req.call.offset m.req.call.count m.req.call.index m.req.call.addr m.req.region m.req.width m.req.src.id.core m.req.src.id.op m.req.src.id.part (idCells m.req.src.path) m.req.src.cap.kind m.req.src.cap.base m.req.src.cap.bits m.req.src.cap.rights m.req.src.cap.width m.req.src.cap.level m.req.src.cap.device (idCells m.ids) (m.nodes.map nodec) (intCells m.cores) (m.moves.map movec) m.base m.next.number (intCells m.next.members) (intCells m.next.owners) (m.state.slots.map slotc) (m.state.pending.map reqc) (m.state.marks.map markc) (m.state.answers.map ansc) (m.state.entries.map entryc) (idCells m.state.commits) m.report.core m.report.view.number (intCells m.report.view.members) (intCells m.report.view.owners) (m.report.state.slots.map slotc) (m.report.state.pending.map reqc) (m.report.state.marks.map markc) (m.report.state.answers.map ansc) (m.report.state.entries.map entryc) (idCells m.report.state.commits) m.report.ready m.report.next.number (intCells m.report.next.members) (intCells m.report.next.owners) (m.report.proposal.slots.map slotc) (m.report.proposal.pending.map reqc) (m.report.proposal.marks.map markc) (m.report.proposal.answers.map ansc) (m.report.proposal.entries.map entryc) (idCells m.report.proposal.commits)
@[reducible] noncomputable def G10L (m : Msg) := g56L0 FUEL m.kind m.view m.frm m.to m.round m.region m.slot m.op.core m.op.op m.op.part m.err m.settled m.req.id.core m.req.id.op m.req.id.part m.req.call.kind m.req.call.slot m.req.call.dest m.req.call.core m.req.call.mask m.req.call.object m.req.call.bits m.req.call.level m.req.call.offset m.req.call.count m.req.call.index m.req.call.addr m.req.region m.req.width m.req.src.id.core m.req.src.id.op m.req.src.id.part (idCells m.req.src.path) m.req.src.cap.kind m.req.src.cap.base m.req.src.cap.bits m.req.src.cap.rights m.req.src.cap.width m.req.src.cap.level m.req.src.cap.device (idCells m.ids) (m.nodes.map nodec) (intCells m.cores) (m.moves.map movec) m.base m.next.number (intCells m.next.members) (intCells m.next.owners) (m.state.slots.map slotc) (m.state.pending.map reqc) (m.state.marks.map markc) (m.state.answers.map ansc) (m.state.entries.map entryc) (idCells m.state.commits) m.report.core m.report.view.number (intCells m.report.view.members) (intCells m.report.view.owners) (m.report.state.slots.map slotc) (m.report.state.pending.map reqc) (m.report.state.marks.map markc) (m.report.state.answers.map ansc) (m.report.state.entries.map entryc) (idCells m.report.state.commits) m.report.ready m.report.next.number (intCells m.report.next.members) (intCells m.report.next.owners) (m.report.proposal.slots.map slotc) (m.report.proposal.pending.map reqc) (m.report.proposal.marks.map markc) (m.report.proposal.answers.map ansc) (m.report.proposal.entries.map entryc) (idCells m.report.proposal.commits)
def sel (b : Nat → Bool) (m : Msg) : Msg := ⟨m.kind, m.view, m.frm, m.to, if b 8 = true then m.round else 0, if b 0 = true then m.region else 0, if b 6 = true then m.slot else 0, if b 2 = true then m.op else zid, if b 3 = true then m.err else 0, if b 4 = true then m.settled else false, if b 1 = true then m.req else noReq, if b 7 = true then m.ids else [], if b 5 = true then m.nodes else [], if b 9 = true then m.cores else [], if b 14 = true then m.moves else [], if b 11 = true then m.base else 0, if b 12 = true then m.next else noView, if b 13 = true then m.state else noState, if b 10 = true then m.report else noReport⟩
theorem sel_fits (b : Nat → Bool) {m : Msg} (h : m.Fits) : (sel b m).Fits := by
 refine ⟨?_, ?_, ?_, ?_, ?_, ?_, ?_, ?_, ?_⟩
 ·show (if b 1 = true then m.req else noReq).src.path.length < 2 ^ 63
  cases b 1 <;> first | exact h.req | (show ([] : List Id).length < 2 ^ 63; simp)
 ·show (if b 7 = true then m.ids else []).length < 2 ^ 63
  cases b 7 <;> first | exact h.ids | (show ([] : List Id).length < 2 ^ 63; simp)
 ·show (if b 5 = true then m.nodes else []).length < 2 ^ 63
  cases b 5 <;> first | exact h.nodes | (show ([] : List Node).length < 2 ^ 63; simp)
 ·show ∀ x ∈ (if b 5 = true then m.nodes else []), x.path.length < 2 ^ 63
  cases b 5 <;> first | exact h.node | (intro x hx; cases hx)
 ·show (if b 9 = true then m.cores else []).length < 2 ^ 63
  cases b 9 <;> first | exact h.cores | (show ([] : List Int).length < 2 ^ 63; simp)
 ·show (if b 14 = true then m.moves else []).length < 2 ^ 63
  cases b 14 <;> first | exact h.moves | (show ([] : List Move).length < 2 ^ 63; simp)
 ·show (if b 12 = true then m.next else noView).Fits
  cases b 12 <;> first | exact h.next | exact ⟨by simp [noView], by simp [noView]⟩
 ·show (if b 13 = true then m.state else noState).Fits
  cases b 13 <;> first | exact h.state | exact ⟨by simp [noState], by simp [noState], by simp [noState], by simp [noState], by simp [noState], by simp [noState], by simp [noState], by simp [noState], by simp [noState]⟩
 ·show (if b 10 = true then m.report else noReport).Fits
  cases b 10 <;> first | exact h.report | exact ⟨⟨by simp [noReport, noView], by simp [noReport, noView]⟩, ⟨by simp [noReport, noState], by simp [noReport, noState], by simp [noReport, noState], by simp [noReport, noState], by simp [noReport, noState], by simp [noReport, noState], by simp [noReport, noState], by simp [noReport, noState], by simp [noReport, noState]⟩, ⟨by simp [noReport, noView], by simp [noReport, noView]⟩, ⟨by simp [noReport, noState], by simp [noReport, noState], by simp [noReport, noState], by simp [noReport, noState], by simp [noReport, noState], by simp [noReport, noState], by simp [noReport, noState], by simp [noReport, noState], by simp [noReport, noState]⟩⟩
theorem sel_same (b : Nat → Bool) (m : Msg) : sameM m (sel b m) = (List.range 15).all (fun g => b g || zf m g) := by
 have k0 : (!cop .neq m.kind (sel b m).kind) = true := by simp [sel, cop]
 have k1 : (!cop .neq m.view (sel b m).view) = true := by simp [sel, cop]
 have k2 : (!cop .neq m.frm (sel b m).frm) = true := by simp [sel, cop]
 have k3 : (!cop .neq m.to (sel b m).to) = true := by simp [sel, cop]
 have e8 : (!cop .neq m.round (sel b m).round) = (b 8 || zf m 8) := by
  show (!cop .neq m.round (if b 8 = true then m.round else 0)) = (b 8 || decide (m.round = 0))
  cases b 8 with
  | true => simp [cop]
  | false => rw [bool_iff]; simp [cop]
 have e0 : (!cop .neq m.region (sel b m).region) = (b 0 || zf m 0) := by
  show (!cop .neq m.region (if b 0 = true then m.region else 0)) = (b 0 || decide (m.region = 0))
  cases b 0 with
  | true => simp [cop]
  | false => rw [bool_iff]; simp [cop]
 have e6 : (!cop .neq m.slot (sel b m).slot) = (b 6 || zf m 6) := by
  show (!cop .neq m.slot (if b 6 = true then m.slot else 0)) = (b 6 || decide (m.slot = 0))
  cases b 6 with
  | true => simp [cop]
  | false => rw [bool_iff]; simp [cop]
 have e3 : (!cop .neq m.err (sel b m).err) = (b 3 || zf m 3) := by
  show (!cop .neq m.err (if b 3 = true then m.err else 0)) = (b 3 || decide (m.err = 0))
  cases b 3 with
  | true => simp [cop]
  | false => rw [bool_iff]; simp [cop]
 have e11 : (!cop .neq m.base (sel b m).base) = (b 11 || zf m 11) := by
  show (!cop .neq m.base (if b 11 = true then m.base else 0)) = (b 11 || decide (m.base = 0))
  cases b 11 with
  | true => simp [cop]
  | false => rw [bool_iff]; simp [cop]
 have e2 : (!(!((cop .eql m.op.core (sel b m).op.core) && ((cop .eql m.op.op (sel b m).op.op) && ((cop .eql m.op.part (sel b m).op.part) && true))))) = (b 2 || zf m 2) := by
  rw [Bool.not_not]
  show ((cop .eql m.op.core (if b 2 = true then m.op else zid).core) && ((cop .eql m.op.op (if b 2 = true then m.op else zid).op) && ((cop .eql m.op.part (if b 2 = true then m.op else zid).part) && true))) = (b 2 || decide (m.op = zid))
  cases b 2 with
  | true => simp [cop]
  | false => rw [bool_iff, Bool.false_or, decide_eq_true_eq]; exact zid_eqb _ _ _
 have e4 : (!(!(m.settled == (sel b m).settled))) = (b 4 || zf m 4) := by
  show (!(!(m.settled == (if b 4 = true then m.settled else false)))) = (b 4 || !m.settled)
  cases b 4 <;> cases m.settled <;> rfl
 have e1 : sameR m.req (sel b m).req = (b 1 || zf m 1) := by
  show sameR m.req (if b 1 = true then m.req else noReq) = (b 1 || zReq m.req)
  cases b 1 with
  | true => exact sameR_refl _
  | false => exact sameR_zero _
 have e7 : decide (m.ids = (sel b m).ids) = (b 7 || zf m 7) := by
  show decide (m.ids = (if b 7 = true then m.ids else [])) = (b 7 || decide (m.ids.length = 0))
  cases b 7 <;> simp
 have e5 : sameL sameN m.nodes (sel b m).nodes = (b 5 || zf m 5) := by
  show sameL sameN m.nodes (if b 5 = true then m.nodes else []) = (b 5 || decide (m.nodes.length = 0))
  cases b 5 with
  | true => exact sameL_refl _ sameN_refl _
  | false => exact sameL_nil _ _
 have e9 : sameL sameI m.cores (sel b m).cores = (b 9 || zf m 9) := by
  show sameL sameI m.cores (if b 9 = true then m.cores else []) = (b 9 || decide (m.cores.length = 0))
  cases b 9 with
  | true => exact sameL_refl _ (fun a => by simp [sameI]) _
  | false => exact sameL_nil _ _
 have e14 : sameL sameMv m.moves (sel b m).moves = (b 14 || zf m 14) := by
  show sameL sameMv m.moves (if b 14 = true then m.moves else []) = (b 14 || decide (m.moves.length = 0))
  cases b 14 with
  | true => exact sameL_refl _ (fun a => by simp [sameMv]) _
  | false => exact sameL_nil _ _
 have e12 : sameV m.next (sel b m).next = (b 12 || zf m 12) := by
  show sameV m.next (if b 12 = true then m.next else noView) = (b 12 || zView m.next)
  cases b 12 with
  | true => exact sameV_refl _
  | false => exact sameV_zero _
 have e13 : sameSt m.state (sel b m).state = (b 13 || zf m 13) := by
  show sameSt m.state (if b 13 = true then m.state else noState) = (b 13 || zState m.state)
  cases b 13 with
  | true => exact sameSt_refl _
  | false => exact sameSt_zero _
 have e10 : sameRep m.report (sel b m).report = (b 10 || zf m 10) := by
  show sameRep m.report (if b 10 = true then m.report else noReport) = (b 10 || zReport m.report)
  cases b 10 with
  | true => exact sameRep_refl _
  | false => exact sameRep_zero _
 unfold sameM
 rw [k0, k1, k2, k3, e8, e0, e6, e2, e3, e4, e11, e1, e7, e5, e9, e14, e12, e13, e10]
 show _ = ((b 0 || zf m 0) && ((b 1 || zf m 1) && ((b 2 || zf m 2) && ((b 3 || zf m 3) && ((b 4 || zf m 4) && ((b 5 || zf m 5) && ((b 6 || zf m 6) && ((b 7 || zf m 7) && ((b 8 || zf m 8) && ((b 9 || zf m 9) && ((b 10 || zf m 10) && ((b 11 || zf m 11) && ((b 12 || zf m 12) && ((b 13 || zf m 13) && ((b 14 || zf m 14) && true)))))))))))))))
 simp only [Bool.true_and, Bool.and_true]
 ac_rfl
theorem idsOk_f : idsOk false = idOk := by funext i; simp [idsOk]
theorem rest_at {n : Nat} {m : Msg} (h : rest n m = true) (g : Nat) (hg : g < 15) (hc : (kf n).contains g = false) : zf m g = true := by
 have this : ((kf n).contains g || zf m g) = true := (List.all_eq_true.1 h) g (List.mem_range.2 hg)
 rwa [hc, Bool.false_or] at this
theorem nodes_none {m : Msg} (h : zf m 5 = true) : m.nodes.all nodeOk = true := by
 have h0 : m.nodes.length = 0 := of_decide_eq_true h
 rw [List.length_eq_zero_iff.1 h0]; rfl
theorem reg_none {m : Msg} (h : zf m 0 = true) : regOk m.region = true := by
 have h0 : m.region = 0 := of_decide_eq_true h
 rw [h0]; rfl
theorem s10k1 (m : Msg) (h : m.Fits) (hk : m.kind = 1) (h1 : numOk m.view = true) (h2 : coreOk m.frm = true) (h3 : coreOk m.to = true) : G10 m = some ((kf 1).all (fieldOk m) && rest 1 m) := by
 have L : ∀ ok, G10L m m.kind m.view m.frm m.to 0 m.region 0 0 0 0 0 false m.req.id.core m.req.id.op m.req.id.part m.req.call.kind m.req.call.slot m.req.call.dest m.req.call.core m.req.call.mask m.req.call.object m.req.call.bits m.req.call.level m.req.call.offset m.req.call.count m.req.call.index m.req.call.addr m.req.region m.req.width m.req.src.id.core m.req.src.id.op m.req.src.id.part (idCells m.req.src.path) m.req.src.cap.kind m.req.src.cap.base m.req.src.cap.bits m.req.src.cap.rights m.req.src.cap.width m.req.src.cap.level m.req.src.cap.device ([] : LL) ([] : LL) ([] : LL) ([] : LL) 0 0 ([] : LL) ([] : LL) ([] : LL) ([] : LL) ([] : LL) ([] : LL) ([] : LL) ([] : LL) 0 0 ([] : LL) ([] : LL) ([] : LL) ([] : LL) ([] : LL) ([] : LL) ([] : LL) ([] : LL) false 0 ([] : LL) ([] : LL) ([] : LL) ([] : LL) ([] : LL) ([] : LL) ([] : LL) ([] : LL) ok 0 = some (ok && (m.nodes.all nodeOk && (regOk m.region && rest 1 m))) := fun ok => by
  have q := l56 m (sel (fun g => (kf 1).contains g) m) h (sel_fits _ h) m.nodes.length 0 FUEL ok (by omega) (by have := fuel63 h.nodes; omega)
  rw [List.drop_zero, sel_same] at q
  exact q
 unfold G10
 rw [g56_eq, if_neg (show ¬ (cop .lss m.kind 1) = true by simp only [CQ]; omega), if_neg (show ¬ (cop .gtr m.kind 17) = true by simp only [CQ]; omega), s89, Option.bind_some, h1, s90, Option.bind_some, h2, s90, Option.bind_some, h3]
 rw [if_neg (show ¬ (!true) = true by decide), if_neg (show ¬ (!true) = true by decide), if_neg (show ¬ (!true) = true by decide)]
 rw [if_pos (keq hk)]
 simp only [L, s91 _ h.req, Option.bind_some]
 cases hr : rest 1 m with
 | false =>
  simp only [Bool.and_false]
  repeat' split
  all_goals rfl
 | true =>
  have hn := nodes_none (rest_at hr 5 (by omega) rfl)
  show _ = some ((fieldOk m 0 && (fieldOk m 1 && true)) && true)
  repeat' split
  all_goals (refine congrArg some ?_; rw [bool_iff]; simp only [fieldOk, slotOk, CQ] at * <;> grind)
theorem s10k2 (m : Msg) (h : m.Fits) (hk : m.kind = 2) (h1 : numOk m.view = true) (h2 : coreOk m.frm = true) (h3 : coreOk m.to = true) : G10 m = some ((kf 2).all (fieldOk m) && rest 2 m) := by
 have L : ∀ ok, G10L m m.kind m.view m.frm m.to 0 m.region 0 m.op.core m.op.op m.op.part m.err m.settled 0 0 0 0 0 0 0 0 0 0 0 0 0 0 0 0 0 0 0 0 ([] : LL) 0 0 0 0 0 0 false ([] : LL) (m.nodes.map nodec) ([] : LL) ([] : LL) 0 0 ([] : LL) ([] : LL) ([] : LL) ([] : LL) ([] : LL) ([] : LL) ([] : LL) ([] : LL) 0 0 ([] : LL) ([] : LL) ([] : LL) ([] : LL) ([] : LL) ([] : LL) ([] : LL) ([] : LL) false 0 ([] : LL) ([] : LL) ([] : LL) ([] : LL) ([] : LL) ([] : LL) ([] : LL) ([] : LL) ok 0 = some (ok && (m.nodes.all nodeOk && (regOk m.region && rest 2 m))) := fun ok => by
  have q := l56 m (sel (fun g => (kf 2).contains g) m) h (sel_fits _ h) m.nodes.length 0 FUEL ok (by omega) (by have := fuel63 h.nodes; omega)
  rw [List.drop_zero, sel_same] at q
  exact q
 unfold G10
 rw [g56_eq, if_neg (show ¬ (cop .lss m.kind 1) = true by simp only [CQ]; omega), if_neg (show ¬ (cop .gtr m.kind 17) = true by simp only [CQ]; omega), s89, Option.bind_some, h1, s90, Option.bind_some, h2, s90, Option.bind_some, h3]
 rw [if_neg (show ¬ (!true) = true by decide), if_neg (show ¬ (!true) = true by decide), if_neg (show ¬ (!true) = true by decide)]
 rw [if_neg (kne (show m.kind ≠ 1 by omega))]
 rw [if_pos (keq hk)]
 simp only [L, s92, s93, List.length_map, Option.bind_some]
 cases hr : rest 2 m with
 | false =>
  simp only [Bool.and_false]
  repeat' split
  all_goals rfl
 | true =>
  show _ = some ((fieldOk m 0 && (fieldOk m 2 && (fieldOk m 3 && (fieldOk m 4 && (fieldOk m 5 && true))))) && true)
  repeat' split
  all_goals (refine congrArg some ?_; rw [bool_iff]; simp only [fieldOk, slotOk, CQ] at * <;> grind)
theorem s10k3 (m : Msg) (h : m.Fits) (hk : m.kind = 3) (h1 : numOk m.view = true) (h2 : coreOk m.frm = true) (h3 : coreOk m.to = true) : G10 m = some ((kf 3).all (fieldOk m) && rest 3 m) := by
 have L : ∀ ok, G10L m m.kind m.view m.frm m.to 0 m.region 0 m.op.core m.op.op m.op.part 0 false 0 0 0 0 0 0 0 0 0 0 0 0 0 0 0 0 0 0 0 0 ([] : LL) 0 0 0 0 0 0 false ([] : LL) ([] : LL) ([] : LL) ([] : LL) 0 0 ([] : LL) ([] : LL) ([] : LL) ([] : LL) ([] : LL) ([] : LL) ([] : LL) ([] : LL) 0 0 ([] : LL) ([] : LL) ([] : LL) ([] : LL) ([] : LL) ([] : LL) ([] : LL) ([] : LL) false 0 ([] : LL) ([] : LL) ([] : LL) ([] : LL) ([] : LL) ([] : LL) ([] : LL) ([] : LL) ok 0 = some (ok && (m.nodes.all nodeOk && (regOk m.region && rest 3 m))) := fun ok => by
  have q := l56 m (sel (fun g => (kf 3).contains g) m) h (sel_fits _ h) m.nodes.length 0 FUEL ok (by omega) (by have := fuel63 h.nodes; omega)
  rw [List.drop_zero, sel_same] at q
  exact q
 unfold G10
 rw [g56_eq, if_neg (show ¬ (cop .lss m.kind 1) = true by simp only [CQ]; omega), if_neg (show ¬ (cop .gtr m.kind 17) = true by simp only [CQ]; omega), s89, Option.bind_some, h1, s90, Option.bind_some, h2, s90, Option.bind_some, h3]
 rw [if_neg (show ¬ (!true) = true by decide), if_neg (show ¬ (!true) = true by decide), if_neg (show ¬ (!true) = true by decide)]
 rw [if_neg (kne (show m.kind ≠ 1 by omega))]
 rw [if_neg (kne (show m.kind ≠ 2 by omega))]
 rw [if_neg (kne (show m.kind ≠ 4 by omega))]
 rw [if_neg (kne (show m.kind ≠ 5 by omega))]
 rw [if_neg (kne (show m.kind ≠ 6 by omega))]
 rw [if_neg (kne (show m.kind ≠ 12 by omega))]
 rw [if_neg (kne (show m.kind ≠ 13 by omega))]
 rw [if_neg (kne (show m.kind ≠ 14 by omega))]
 rw [if_neg (kne (show m.kind ≠ 15 by omega))]
 rw [if_neg (kne (show m.kind ≠ 16 by omega))]
 rw [if_neg (kne (show m.kind ≠ 17 by omega))]
 simp only [L, s92, Option.bind_some]
 cases hr : rest 3 m with
 | false =>
  simp only [Bool.and_false]
  repeat' split
  all_goals rfl
 | true =>
  have hn := nodes_none (rest_at hr 5 (by omega) rfl)
  show _ = some ((fieldOk m 0 && (fieldOk m 2 && true)) && true)
  repeat' split
  all_goals (refine congrArg some ?_; rw [bool_iff]; simp only [fieldOk, slotOk, CQ] at * <;> grind)
theorem s10k4 (m : Msg) (h : m.Fits) (hk : m.kind = 4) (h1 : numOk m.view = true) (h2 : coreOk m.frm = true) (h3 : coreOk m.to = true) : G10 m = some ((kf 4).all (fieldOk m) && rest 4 m) := by
 have L : ∀ ok, G10L m m.kind m.view m.frm m.to 0 m.region m.slot m.op.core m.op.op m.op.part 0 false 0 0 0 0 0 0 0 0 0 0 0 0 0 0 0 0 0 0 0 0 ([] : LL) 0 0 0 0 0 0 false ([] : LL) (m.nodes.map nodec) ([] : LL) ([] : LL) 0 0 ([] : LL) ([] : LL) ([] : LL) ([] : LL) ([] : LL) ([] : LL) ([] : LL) ([] : LL) 0 0 ([] : LL) ([] : LL) ([] : LL) ([] : LL) ([] : LL) ([] : LL) ([] : LL) ([] : LL) false 0 ([] : LL) ([] : LL) ([] : LL) ([] : LL) ([] : LL) ([] : LL) ([] : LL) ([] : LL) ok 0 = some (ok && (m.nodes.all nodeOk && (regOk m.region && rest 4 m))) := fun ok => by
  have q := l56 m (sel (fun g => (kf 4).contains g) m) h (sel_fits _ h) m.nodes.length 0 FUEL ok (by omega) (by have := fuel63 h.nodes; omega)
  rw [List.drop_zero, sel_same] at q
  exact q
 unfold G10
 rw [g56_eq, if_neg (show ¬ (cop .lss m.kind 1) = true by simp only [CQ]; omega), if_neg (show ¬ (cop .gtr m.kind 17) = true by simp only [CQ]; omega), s89, Option.bind_some, h1, s90, Option.bind_some, h2, s90, Option.bind_some, h3]
 rw [if_neg (show ¬ (!true) = true by decide), if_neg (show ¬ (!true) = true by decide), if_neg (show ¬ (!true) = true by decide)]
 rw [if_neg (kne (show m.kind ≠ 1 by omega))]
 rw [if_neg (kne (show m.kind ≠ 2 by omega))]
 rw [if_pos (keq hk)]
 simp only [L, s92, List.length_map, Option.bind_some]
 cases hr : rest 4 m with
 | false =>
  simp only [Bool.and_false]
  repeat' split
  all_goals rfl
 | true =>
  show _ = some ((fieldOk m 0 && (fieldOk m 2 && (fieldOk m 6 && (fieldOk m 5 && true)))) && true)
  repeat' split
  all_goals (refine congrArg some ?_; rw [bool_iff]; simp only [fieldOk, slotOk, CQ] at * <;> grind)
theorem s10k5 (m : Msg) (h : m.Fits) (hk : m.kind = 5) (h1 : numOk m.view = true) (h2 : coreOk m.frm = true) (h3 : coreOk m.to = true) : G10 m = some ((kf 5).all (fieldOk m) && rest 5 m) := by
 have L : ∀ ok, G10L m m.kind m.view m.frm m.to 0 m.region 0 m.op.core m.op.op m.op.part m.err false 0 0 0 0 0 0 0 0 0 0 0 0 0 0 0 0 0 0 0 0 ([] : LL) 0 0 0 0 0 0 false ([] : LL) ([] : LL) ([] : LL) ([] : LL) 0 0 ([] : LL) ([] : LL) ([] : LL) ([] : LL) ([] : LL) ([] : LL) ([] : LL) ([] : LL) 0 0 ([] : LL) ([] : LL) ([] : LL) ([] : LL) ([] : LL) ([] : LL) ([] : LL) ([] : LL) false 0 ([] : LL) ([] : LL) ([] : LL) ([] : LL) ([] : LL) ([] : LL) ([] : LL) ([] : LL) ok 0 = some (ok && (m.nodes.all nodeOk && (regOk m.region && rest 5 m))) := fun ok => by
  have q := l56 m (sel (fun g => (kf 5).contains g) m) h (sel_fits _ h) m.nodes.length 0 FUEL ok (by omega) (by have := fuel63 h.nodes; omega)
  rw [List.drop_zero, sel_same] at q
  exact q
 unfold G10
 rw [g56_eq, if_neg (show ¬ (cop .lss m.kind 1) = true by simp only [CQ]; omega), if_neg (show ¬ (cop .gtr m.kind 17) = true by simp only [CQ]; omega), s89, Option.bind_some, h1, s90, Option.bind_some, h2, s90, Option.bind_some, h3]
 rw [if_neg (show ¬ (!true) = true by decide), if_neg (show ¬ (!true) = true by decide), if_neg (show ¬ (!true) = true by decide)]
 rw [if_neg (kne (show m.kind ≠ 1 by omega))]
 rw [if_neg (kne (show m.kind ≠ 2 by omega))]
 rw [if_neg (kne (show m.kind ≠ 4 by omega))]
 rw [if_pos (keq hk)]
 simp only [L, s92, s93, Option.bind_some]
 cases hr : rest 5 m with
 | false =>
  simp only [Bool.and_false]
  repeat' split
  all_goals rfl
 | true =>
  have hn := nodes_none (rest_at hr 5 (by omega) rfl)
  show _ = some ((fieldOk m 0 && (fieldOk m 2 && (fieldOk m 3 && true))) && true)
  repeat' split
  all_goals (refine congrArg some ?_; rw [bool_iff]; simp only [fieldOk, slotOk, CQ] at * <;> grind)
theorem s10k6 (m : Msg) (h : m.Fits) (hk : m.kind = 6) (h1 : numOk m.view = true) (h2 : coreOk m.frm = true) (h3 : coreOk m.to = true) : G10 m = some ((kf 6).all (fieldOk m) && rest 6 m) := by
 have L : ∀ ok, G10L m m.kind m.view m.frm m.to 0 m.region 0 m.op.core m.op.op m.op.part 0 false 0 0 0 0 0 0 0 0 0 0 0 0 0 0 0 0 0 0 0 0 ([] : LL) 0 0 0 0 0 0 false (idCells m.ids) ([] : LL) ([] : LL) ([] : LL) 0 0 ([] : LL) ([] : LL) ([] : LL) ([] : LL) ([] : LL) ([] : LL) ([] : LL) ([] : LL) 0 0 ([] : LL) ([] : LL) ([] : LL) ([] : LL) ([] : LL) ([] : LL) ([] : LL) ([] : LL) false 0 ([] : LL) ([] : LL) ([] : LL) ([] : LL) ([] : LL) ([] : LL) ([] : LL) ([] : LL) ok 0 = some (ok && (m.nodes.all nodeOk && (regOk m.region && rest 6 m))) := fun ok => by
  have q := l56 m (sel (fun g => (kf 6).contains g) m) h (sel_fits _ h) m.nodes.length 0 FUEL ok (by omega) (by have := fuel63 h.nodes; omega)
  rw [List.drop_zero, sel_same] at q
  exact q
 unfold G10
 rw [g56_eq, if_neg (show ¬ (cop .lss m.kind 1) = true by simp only [CQ]; omega), if_neg (show ¬ (cop .gtr m.kind 17) = true by simp only [CQ]; omega), s89, Option.bind_some, h1, s90, Option.bind_some, h2, s90, Option.bind_some, h3]
 rw [if_neg (show ¬ (!true) = true by decide), if_neg (show ¬ (!true) = true by decide), if_neg (show ¬ (!true) = true by decide)]
 rw [if_neg (kne (show m.kind ≠ 1 by omega))]
 rw [if_neg (kne (show m.kind ≠ 2 by omega))]
 rw [if_neg (kne (show m.kind ≠ 4 by omega))]
 rw [if_neg (kne (show m.kind ≠ 5 by omega))]
 rw [if_pos (keq hk)]
 simp only [L, s92, s94 _ _ h.ids, ids_len, idsOk_f, Option.bind_some]
 cases hr : rest 6 m with
 | false =>
  simp only [Bool.and_false]
  repeat' split
  all_goals rfl
 | true =>
  have hn := nodes_none (rest_at hr 5 (by omega) rfl)
  show _ = some ((fieldOk m 0 && (fieldOk m 2 && (fieldOk m 7 && true))) && true)
  repeat' split
  all_goals (refine congrArg some ?_; rw [bool_iff]; simp only [fieldOk, slotOk, CQ] at * <;> grind)
theorem s10k7 (m : Msg) (h : m.Fits) (hk : m.kind = 7) (h1 : numOk m.view = true) (h2 : coreOk m.frm = true) (h3 : coreOk m.to = true) : G10 m = some ((kf 7).all (fieldOk m) && rest 7 m) := by
 have L : ∀ ok, G10L m m.kind m.view m.frm m.to 0 m.region 0 m.op.core m.op.op m.op.part 0 false 0 0 0 0 0 0 0 0 0 0 0 0 0 0 0 0 0 0 0 0 ([] : LL) 0 0 0 0 0 0 false ([] : LL) ([] : LL) ([] : LL) ([] : LL) 0 0 ([] : LL) ([] : LL) ([] : LL) ([] : LL) ([] : LL) ([] : LL) ([] : LL) ([] : LL) 0 0 ([] : LL) ([] : LL) ([] : LL) ([] : LL) ([] : LL) ([] : LL) ([] : LL) ([] : LL) false 0 ([] : LL) ([] : LL) ([] : LL) ([] : LL) ([] : LL) ([] : LL) ([] : LL) ([] : LL) ok 0 = some (ok && (m.nodes.all nodeOk && (regOk m.region && rest 7 m))) := fun ok => by
  have q := l56 m (sel (fun g => (kf 7).contains g) m) h (sel_fits _ h) m.nodes.length 0 FUEL ok (by omega) (by have := fuel63 h.nodes; omega)
  rw [List.drop_zero, sel_same] at q
  exact q
 unfold G10
 rw [g56_eq, if_neg (show ¬ (cop .lss m.kind 1) = true by simp only [CQ]; omega), if_neg (show ¬ (cop .gtr m.kind 17) = true by simp only [CQ]; omega), s89, Option.bind_some, h1, s90, Option.bind_some, h2, s90, Option.bind_some, h3]
 rw [if_neg (show ¬ (!true) = true by decide), if_neg (show ¬ (!true) = true by decide), if_neg (show ¬ (!true) = true by decide)]
 rw [if_neg (kne (show m.kind ≠ 1 by omega))]
 rw [if_neg (kne (show m.kind ≠ 2 by omega))]
 rw [if_neg (kne (show m.kind ≠ 4 by omega))]
 rw [if_neg (kne (show m.kind ≠ 5 by omega))]
 rw [if_neg (kne (show m.kind ≠ 6 by omega))]
 rw [if_neg (kne (show m.kind ≠ 12 by omega))]
 rw [if_neg (kne (show m.kind ≠ 13 by omega))]
 rw [if_neg (kne (show m.kind ≠ 14 by omega))]
 rw [if_neg (kne (show m.kind ≠ 15 by omega))]
 rw [if_neg (kne (show m.kind ≠ 16 by omega))]
 rw [if_neg (kne (show m.kind ≠ 17 by omega))]
 simp only [L, s92, Option.bind_some]
 cases hr : rest 7 m with
 | false =>
  simp only [Bool.and_false]
  repeat' split
  all_goals rfl
 | true =>
  have hn := nodes_none (rest_at hr 5 (by omega) rfl)
  show _ = some ((fieldOk m 0 && (fieldOk m 2 && true)) && true)
  repeat' split
  all_goals (refine congrArg some ?_; rw [bool_iff]; simp only [fieldOk, slotOk, CQ] at * <;> grind)
theorem s10k8 (m : Msg) (h : m.Fits) (hk : m.kind = 8) (h1 : numOk m.view = true) (h2 : coreOk m.frm = true) (h3 : coreOk m.to = true) : G10 m = some ((kf 8).all (fieldOk m) && rest 8 m) := by
 have L : ∀ ok, G10L m m.kind m.view m.frm m.to 0 m.region 0 m.op.core m.op.op m.op.part 0 false 0 0 0 0 0 0 0 0 0 0 0 0 0 0 0 0 0 0 0 0 ([] : LL) 0 0 0 0 0 0 false ([] : LL) ([] : LL) ([] : LL) ([] : LL) 0 0 ([] : LL) ([] : LL) ([] : LL) ([] : LL) ([] : LL) ([] : LL) ([] : LL) ([] : LL) 0 0 ([] : LL) ([] : LL) ([] : LL) ([] : LL) ([] : LL) ([] : LL) ([] : LL) ([] : LL) false 0 ([] : LL) ([] : LL) ([] : LL) ([] : LL) ([] : LL) ([] : LL) ([] : LL) ([] : LL) ok 0 = some (ok && (m.nodes.all nodeOk && (regOk m.region && rest 8 m))) := fun ok => by
  have q := l56 m (sel (fun g => (kf 8).contains g) m) h (sel_fits _ h) m.nodes.length 0 FUEL ok (by omega) (by have := fuel63 h.nodes; omega)
  rw [List.drop_zero, sel_same] at q
  exact q
 unfold G10
 rw [g56_eq, if_neg (show ¬ (cop .lss m.kind 1) = true by simp only [CQ]; omega), if_neg (show ¬ (cop .gtr m.kind 17) = true by simp only [CQ]; omega), s89, Option.bind_some, h1, s90, Option.bind_some, h2, s90, Option.bind_some, h3]
 rw [if_neg (show ¬ (!true) = true by decide), if_neg (show ¬ (!true) = true by decide), if_neg (show ¬ (!true) = true by decide)]
 rw [if_neg (kne (show m.kind ≠ 1 by omega))]
 rw [if_neg (kne (show m.kind ≠ 2 by omega))]
 rw [if_neg (kne (show m.kind ≠ 4 by omega))]
 rw [if_neg (kne (show m.kind ≠ 5 by omega))]
 rw [if_neg (kne (show m.kind ≠ 6 by omega))]
 rw [if_neg (kne (show m.kind ≠ 12 by omega))]
 rw [if_neg (kne (show m.kind ≠ 13 by omega))]
 rw [if_neg (kne (show m.kind ≠ 14 by omega))]
 rw [if_neg (kne (show m.kind ≠ 15 by omega))]
 rw [if_neg (kne (show m.kind ≠ 16 by omega))]
 rw [if_neg (kne (show m.kind ≠ 17 by omega))]
 simp only [L, s92, Option.bind_some]
 cases hr : rest 8 m with
 | false =>
  simp only [Bool.and_false]
  repeat' split
  all_goals rfl
 | true =>
  have hn := nodes_none (rest_at hr 5 (by omega) rfl)
  show _ = some ((fieldOk m 0 && (fieldOk m 2 && true)) && true)
  repeat' split
  all_goals (refine congrArg some ?_; rw [bool_iff]; simp only [fieldOk, slotOk, CQ] at * <;> grind)
theorem s10k9 (m : Msg) (h : m.Fits) (hk : m.kind = 9) (h1 : numOk m.view = true) (h2 : coreOk m.frm = true) (h3 : coreOk m.to = true) : G10 m = some ((kf 9).all (fieldOk m) && rest 9 m) := by
 have L : ∀ ok, G10L m m.kind m.view m.frm m.to 0 m.region 0 m.op.core m.op.op m.op.part 0 false 0 0 0 0 0 0 0 0 0 0 0 0 0 0 0 0 0 0 0 0 ([] : LL) 0 0 0 0 0 0 false ([] : LL) ([] : LL) ([] : LL) ([] : LL) 0 0 ([] : LL) ([] : LL) ([] : LL) ([] : LL) ([] : LL) ([] : LL) ([] : LL) ([] : LL) 0 0 ([] : LL) ([] : LL) ([] : LL) ([] : LL) ([] : LL) ([] : LL) ([] : LL) ([] : LL) false 0 ([] : LL) ([] : LL) ([] : LL) ([] : LL) ([] : LL) ([] : LL) ([] : LL) ([] : LL) ok 0 = some (ok && (m.nodes.all nodeOk && (regOk m.region && rest 9 m))) := fun ok => by
  have q := l56 m (sel (fun g => (kf 9).contains g) m) h (sel_fits _ h) m.nodes.length 0 FUEL ok (by omega) (by have := fuel63 h.nodes; omega)
  rw [List.drop_zero, sel_same] at q
  exact q
 unfold G10
 rw [g56_eq, if_neg (show ¬ (cop .lss m.kind 1) = true by simp only [CQ]; omega), if_neg (show ¬ (cop .gtr m.kind 17) = true by simp only [CQ]; omega), s89, Option.bind_some, h1, s90, Option.bind_some, h2, s90, Option.bind_some, h3]
 rw [if_neg (show ¬ (!true) = true by decide), if_neg (show ¬ (!true) = true by decide), if_neg (show ¬ (!true) = true by decide)]
 rw [if_neg (kne (show m.kind ≠ 1 by omega))]
 rw [if_neg (kne (show m.kind ≠ 2 by omega))]
 rw [if_neg (kne (show m.kind ≠ 4 by omega))]
 rw [if_neg (kne (show m.kind ≠ 5 by omega))]
 rw [if_neg (kne (show m.kind ≠ 6 by omega))]
 rw [if_neg (kne (show m.kind ≠ 12 by omega))]
 rw [if_neg (kne (show m.kind ≠ 13 by omega))]
 rw [if_neg (kne (show m.kind ≠ 14 by omega))]
 rw [if_neg (kne (show m.kind ≠ 15 by omega))]
 rw [if_neg (kne (show m.kind ≠ 16 by omega))]
 rw [if_neg (kne (show m.kind ≠ 17 by omega))]
 simp only [L, s92, Option.bind_some]
 cases hr : rest 9 m with
 | false =>
  simp only [Bool.and_false]
  repeat' split
  all_goals rfl
 | true =>
  have hn := nodes_none (rest_at hr 5 (by omega) rfl)
  show _ = some ((fieldOk m 0 && (fieldOk m 2 && true)) && true)
  repeat' split
  all_goals (refine congrArg some ?_; rw [bool_iff]; simp only [fieldOk, slotOk, CQ] at * <;> grind)
theorem s10k10 (m : Msg) (h : m.Fits) (hk : m.kind = 10) (h1 : numOk m.view = true) (h2 : coreOk m.frm = true) (h3 : coreOk m.to = true) : G10 m = some ((kf 10).all (fieldOk m) && rest 10 m) := by
 have L : ∀ ok, G10L m m.kind m.view m.frm m.to 0 m.region 0 m.op.core m.op.op m.op.part 0 false 0 0 0 0 0 0 0 0 0 0 0 0 0 0 0 0 0 0 0 0 ([] : LL) 0 0 0 0 0 0 false ([] : LL) ([] : LL) ([] : LL) ([] : LL) 0 0 ([] : LL) ([] : LL) ([] : LL) ([] : LL) ([] : LL) ([] : LL) ([] : LL) ([] : LL) 0 0 ([] : LL) ([] : LL) ([] : LL) ([] : LL) ([] : LL) ([] : LL) ([] : LL) ([] : LL) false 0 ([] : LL) ([] : LL) ([] : LL) ([] : LL) ([] : LL) ([] : LL) ([] : LL) ([] : LL) ok 0 = some (ok && (m.nodes.all nodeOk && (regOk m.region && rest 10 m))) := fun ok => by
  have q := l56 m (sel (fun g => (kf 10).contains g) m) h (sel_fits _ h) m.nodes.length 0 FUEL ok (by omega) (by have := fuel63 h.nodes; omega)
  rw [List.drop_zero, sel_same] at q
  exact q
 unfold G10
 rw [g56_eq, if_neg (show ¬ (cop .lss m.kind 1) = true by simp only [CQ]; omega), if_neg (show ¬ (cop .gtr m.kind 17) = true by simp only [CQ]; omega), s89, Option.bind_some, h1, s90, Option.bind_some, h2, s90, Option.bind_some, h3]
 rw [if_neg (show ¬ (!true) = true by decide), if_neg (show ¬ (!true) = true by decide), if_neg (show ¬ (!true) = true by decide)]
 rw [if_neg (kne (show m.kind ≠ 1 by omega))]
 rw [if_neg (kne (show m.kind ≠ 2 by omega))]
 rw [if_neg (kne (show m.kind ≠ 4 by omega))]
 rw [if_neg (kne (show m.kind ≠ 5 by omega))]
 rw [if_neg (kne (show m.kind ≠ 6 by omega))]
 rw [if_neg (kne (show m.kind ≠ 12 by omega))]
 rw [if_neg (kne (show m.kind ≠ 13 by omega))]
 rw [if_neg (kne (show m.kind ≠ 14 by omega))]
 rw [if_neg (kne (show m.kind ≠ 15 by omega))]
 rw [if_neg (kne (show m.kind ≠ 16 by omega))]
 rw [if_neg (kne (show m.kind ≠ 17 by omega))]
 simp only [L, s92, Option.bind_some]
 cases hr : rest 10 m with
 | false =>
  simp only [Bool.and_false]
  repeat' split
  all_goals rfl
 | true =>
  have hn := nodes_none (rest_at hr 5 (by omega) rfl)
  show _ = some ((fieldOk m 0 && (fieldOk m 2 && true)) && true)
  repeat' split
  all_goals (refine congrArg some ?_; rw [bool_iff]; simp only [fieldOk, slotOk, CQ] at * <;> grind)
theorem s10k11 (m : Msg) (h : m.Fits) (hk : m.kind = 11) (h1 : numOk m.view = true) (h2 : coreOk m.frm = true) (h3 : coreOk m.to = true) : G10 m = some ((kf 11).all (fieldOk m) && rest 11 m) := by
 have L : ∀ ok, G10L m m.kind m.view m.frm m.to 0 m.region 0 m.op.core m.op.op m.op.part 0 false 0 0 0 0 0 0 0 0 0 0 0 0 0 0 0 0 0 0 0 0 ([] : LL) 0 0 0 0 0 0 false ([] : LL) ([] : LL) ([] : LL) ([] : LL) 0 0 ([] : LL) ([] : LL) ([] : LL) ([] : LL) ([] : LL) ([] : LL) ([] : LL) ([] : LL) 0 0 ([] : LL) ([] : LL) ([] : LL) ([] : LL) ([] : LL) ([] : LL) ([] : LL) ([] : LL) false 0 ([] : LL) ([] : LL) ([] : LL) ([] : LL) ([] : LL) ([] : LL) ([] : LL) ([] : LL) ok 0 = some (ok && (m.nodes.all nodeOk && (regOk m.region && rest 11 m))) := fun ok => by
  have q := l56 m (sel (fun g => (kf 11).contains g) m) h (sel_fits _ h) m.nodes.length 0 FUEL ok (by omega) (by have := fuel63 h.nodes; omega)
  rw [List.drop_zero, sel_same] at q
  exact q
 unfold G10
 rw [g56_eq, if_neg (show ¬ (cop .lss m.kind 1) = true by simp only [CQ]; omega), if_neg (show ¬ (cop .gtr m.kind 17) = true by simp only [CQ]; omega), s89, Option.bind_some, h1, s90, Option.bind_some, h2, s90, Option.bind_some, h3]
 rw [if_neg (show ¬ (!true) = true by decide), if_neg (show ¬ (!true) = true by decide), if_neg (show ¬ (!true) = true by decide)]
 rw [if_neg (kne (show m.kind ≠ 1 by omega))]
 rw [if_neg (kne (show m.kind ≠ 2 by omega))]
 rw [if_neg (kne (show m.kind ≠ 4 by omega))]
 rw [if_neg (kne (show m.kind ≠ 5 by omega))]
 rw [if_neg (kne (show m.kind ≠ 6 by omega))]
 rw [if_neg (kne (show m.kind ≠ 12 by omega))]
 rw [if_neg (kne (show m.kind ≠ 13 by omega))]
 rw [if_neg (kne (show m.kind ≠ 14 by omega))]
 rw [if_neg (kne (show m.kind ≠ 15 by omega))]
 rw [if_neg (kne (show m.kind ≠ 16 by omega))]
 rw [if_neg (kne (show m.kind ≠ 17 by omega))]
 simp only [L, s92, Option.bind_some]
 cases hr : rest 11 m with
 | false =>
  simp only [Bool.and_false]
  repeat' split
  all_goals rfl
 | true =>
  have hn := nodes_none (rest_at hr 5 (by omega) rfl)
  show _ = some ((fieldOk m 0 && (fieldOk m 2 && true)) && true)
  repeat' split
  all_goals (refine congrArg some ?_; rw [bool_iff]; simp only [fieldOk, slotOk, CQ] at * <;> grind)
theorem s10k12 (m : Msg) (h : m.Fits) (hk : m.kind = 12) (h1 : numOk m.view = true) (h2 : coreOk m.frm = true) (h3 : coreOk m.to = true) : G10 m = some ((kf 12).all (fieldOk m) && rest 12 m) := by
 have L : ∀ ok, G10L m m.kind m.view m.frm m.to m.round 0 0 0 0 0 0 false 0 0 0 0 0 0 0 0 0 0 0 0 0 0 0 0 0 0 0 0 ([] : LL) 0 0 0 0 0 0 false ([] : LL) ([] : LL) (intCells m.cores) ([] : LL) 0 0 ([] : LL) ([] : LL) ([] : LL) ([] : LL) ([] : LL) ([] : LL) ([] : LL) ([] : LL) 0 0 ([] : LL) ([] : LL) ([] : LL) ([] : LL) ([] : LL) ([] : LL) ([] : LL) ([] : LL) false 0 ([] : LL) ([] : LL) ([] : LL) ([] : LL) ([] : LL) ([] : LL) ([] : LL) ([] : LL) ok 0 = some (ok && (m.nodes.all nodeOk && (regOk m.region && rest 12 m))) := fun ok => by
  have q := l56 m (sel (fun g => (kf 12).contains g) m) h (sel_fits _ h) m.nodes.length 0 FUEL ok (by omega) (by have := fuel63 h.nodes; omega)
  rw [List.drop_zero, sel_same] at q
  exact q
 unfold G10
 rw [g56_eq, if_neg (show ¬ (cop .lss m.kind 1) = true by simp only [CQ]; omega), if_neg (show ¬ (cop .gtr m.kind 17) = true by simp only [CQ]; omega), s89, Option.bind_some, h1, s90, Option.bind_some, h2, s90, Option.bind_some, h3]
 rw [if_neg (show ¬ (!true) = true by decide), if_neg (show ¬ (!true) = true by decide), if_neg (show ¬ (!true) = true by decide)]
 rw [if_neg (kne (show m.kind ≠ 1 by omega))]
 rw [if_neg (kne (show m.kind ≠ 2 by omega))]
 rw [if_neg (kne (show m.kind ≠ 4 by omega))]
 rw [if_neg (kne (show m.kind ≠ 5 by omega))]
 rw [if_neg (kne (show m.kind ≠ 6 by omega))]
 rw [if_pos (keq hk)]
 simp only [L, s89, s95 _ h.cores, Option.bind_some]
 cases hr : rest 12 m with
 | false =>
  simp only [Bool.and_false]
  repeat' split
  all_goals rfl
 | true =>
  have hn := nodes_none (rest_at hr 5 (by omega) rfl)
  have hg := reg_none (rest_at hr 0 (by omega) rfl)
  show _ = some ((fieldOk m 8 && (fieldOk m 9 && true)) && true)
  repeat' split
  all_goals (refine congrArg some ?_; rw [bool_iff]; simp only [fieldOk, slotOk, CQ] at * <;> grind)
theorem s10k13 (m : Msg) (h : m.Fits) (hk : m.kind = 13) (h1 : numOk m.view = true) (h2 : coreOk m.frm = true) (h3 : coreOk m.to = true) : G10 m = some ((kf 13).all (fieldOk m) && rest 13 m) := by
 have L : ∀ ok, G10L m m.kind m.view m.frm m.to m.round 0 0 0 0 0 0 false 0 0 0 0 0 0 0 0 0 0 0 0 0 0 0 0 0 0 0 0 ([] : LL) 0 0 0 0 0 0 false ([] : LL) ([] : LL) ([] : LL) ([] : LL) 0 0 ([] : LL) ([] : LL) ([] : LL) ([] : LL) ([] : LL) ([] : LL) ([] : LL) ([] : LL) m.report.core m.report.view.number (intCells m.report.view.members) (intCells m.report.view.owners) (m.report.state.slots.map slotc) (m.report.state.pending.map reqc) (m.report.state.marks.map markc) (m.report.state.answers.map ansc) (m.report.state.entries.map entryc) (idCells m.report.state.commits) m.report.ready m.report.next.number (intCells m.report.next.members) (intCells m.report.next.owners) (m.report.proposal.slots.map slotc) (m.report.proposal.pending.map reqc) (m.report.proposal.marks.map markc) (m.report.proposal.answers.map ansc) (m.report.proposal.entries.map entryc) (idCells m.report.proposal.commits) ok 0 = some (ok && (m.nodes.all nodeOk && (regOk m.region && rest 13 m))) := fun ok => by
  have q := l56 m (sel (fun g => (kf 13).contains g) m) h (sel_fits _ h) m.nodes.length 0 FUEL ok (by omega) (by have := fuel63 h.nodes; omega)
  rw [List.drop_zero, sel_same] at q
  exact q
 unfold G10
 rw [g56_eq, if_neg (show ¬ (cop .lss m.kind 1) = true by simp only [CQ]; omega), if_neg (show ¬ (cop .gtr m.kind 17) = true by simp only [CQ]; omega), s89, Option.bind_some, h1, s90, Option.bind_some, h2, s90, Option.bind_some, h3]
 rw [if_neg (show ¬ (!true) = true by decide), if_neg (show ¬ (!true) = true by decide), if_neg (show ¬ (!true) = true by decide)]
 rw [if_neg (kne (show m.kind ≠ 1 by omega))]
 rw [if_neg (kne (show m.kind ≠ 2 by omega))]
 rw [if_neg (kne (show m.kind ≠ 4 by omega))]
 rw [if_neg (kne (show m.kind ≠ 5 by omega))]
 rw [if_neg (kne (show m.kind ≠ 6 by omega))]
 rw [if_neg (kne (show m.kind ≠ 12 by omega))]
 rw [if_pos (keq hk)]
 simp only [L, s89, s96 _ h.report, Option.bind_some]
 cases hr : rest 13 m with
 | false =>
  simp only [Bool.and_false]
  repeat' split
  all_goals rfl
 | true =>
  have hn := nodes_none (rest_at hr 5 (by omega) rfl)
  have hg := reg_none (rest_at hr 0 (by omega) rfl)
  show _ = some ((fieldOk m 8 && (fieldOk m 10 && true)) && true)
  repeat' split
  all_goals (refine congrArg some ?_; rw [bool_iff]; simp only [fieldOk, slotOk, CQ] at * <;> grind)
theorem s10k14 (m : Msg) (h : m.Fits) (hk : m.kind = 14) (h1 : numOk m.view = true) (h2 : coreOk m.frm = true) (h3 : coreOk m.to = true) : G10 m = some ((kf 14).all (fieldOk m) && rest 14 m) := by
 have L : ∀ ok, G10L m m.kind m.view m.frm m.to m.round 0 0 0 0 0 0 false 0 0 0 0 0 0 0 0 0 0 0 0 0 0 0 0 0 0 0 0 ([] : LL) 0 0 0 0 0 0 false ([] : LL) ([] : LL) (intCells m.cores) ([] : LL) m.base m.next.number (intCells m.next.members) (intCells m.next.owners) (m.state.slots.map slotc) (m.state.pending.map reqc) (m.state.marks.map markc) (m.state.answers.map ansc) (m.state.entries.map entryc) (idCells m.state.commits) 0 0 ([] : LL) ([] : LL) ([] : LL) ([] : LL) ([] : LL) ([] : LL) ([] : LL) ([] : LL) false 0 ([] : LL) ([] : LL) ([] : LL) ([] : LL) ([] : LL) ([] : LL) ([] : LL) ([] : LL) ok 0 = some (ok && (m.nodes.all nodeOk && (regOk m.region && rest 14 m))) := fun ok => by
  have q := l56 m (sel (fun g => (kf 14).contains g) m) h (sel_fits _ h) m.nodes.length 0 FUEL ok (by omega) (by have := fuel63 h.nodes; omega)
  rw [List.drop_zero, sel_same] at q
  exact q
 unfold G10
 rw [g56_eq, if_neg (show ¬ (cop .lss m.kind 1) = true by simp only [CQ]; omega), if_neg (show ¬ (cop .gtr m.kind 17) = true by simp only [CQ]; omega), s89, Option.bind_some, h1, s90, Option.bind_some, h2, s90, Option.bind_some, h3]
 rw [if_neg (show ¬ (!true) = true by decide), if_neg (show ¬ (!true) = true by decide), if_neg (show ¬ (!true) = true by decide)]
 rw [if_neg (kne (show m.kind ≠ 1 by omega))]
 rw [if_neg (kne (show m.kind ≠ 2 by omega))]
 rw [if_neg (kne (show m.kind ≠ 4 by omega))]
 rw [if_neg (kne (show m.kind ≠ 5 by omega))]
 rw [if_neg (kne (show m.kind ≠ 6 by omega))]
 rw [if_neg (kne (show m.kind ≠ 12 by omega))]
 rw [if_neg (kne (show m.kind ≠ 13 by omega))]
 rw [if_pos (keq hk)]
 simp only [L, s89, s95 _ h.cores, s97 _ h.next.members h.next.owners, s98 _ h.state, Option.bind_some]
 cases hr : rest 14 m with
 | false =>
  simp only [Bool.and_false]
  repeat' split
  all_goals rfl
 | true =>
  have hn := nodes_none (rest_at hr 5 (by omega) rfl)
  have hg := reg_none (rest_at hr 0 (by omega) rfl)
  show _ = some ((fieldOk m 8 && (fieldOk m 11 && (fieldOk m 9 && (fieldOk m 12 && (fieldOk m 13 && true))))) && true)
  repeat' split
  all_goals (refine congrArg some ?_; rw [bool_iff]; simp only [fieldOk, slotOk, CQ] at * <;> grind)
theorem s10k15 (m : Msg) (h : m.Fits) (hk : m.kind = 15) (h1 : numOk m.view = true) (h2 : coreOk m.frm = true) (h3 : coreOk m.to = true) : G10 m = some ((kf 15).all (fieldOk m) && rest 15 m) := by
 have L : ∀ ok, G10L m m.kind m.view m.frm m.to m.round 0 0 0 0 0 0 false 0 0 0 0 0 0 0 0 0 0 0 0 0 0 0 0 0 0 0 0 ([] : LL) 0 0 0 0 0 0 false ([] : LL) ([] : LL) ([] : LL) ([] : LL) 0 0 ([] : LL) ([] : LL) ([] : LL) ([] : LL) ([] : LL) ([] : LL) ([] : LL) ([] : LL) 0 0 ([] : LL) ([] : LL) ([] : LL) ([] : LL) ([] : LL) ([] : LL) ([] : LL) ([] : LL) false 0 ([] : LL) ([] : LL) ([] : LL) ([] : LL) ([] : LL) ([] : LL) ([] : LL) ([] : LL) ok 0 = some (ok && (m.nodes.all nodeOk && (regOk m.region && rest 15 m))) := fun ok => by
  have q := l56 m (sel (fun g => (kf 15).contains g) m) h (sel_fits _ h) m.nodes.length 0 FUEL ok (by omega) (by have := fuel63 h.nodes; omega)
  rw [List.drop_zero, sel_same] at q
  exact q
 unfold G10
 rw [g56_eq, if_neg (show ¬ (cop .lss m.kind 1) = true by simp only [CQ]; omega), if_neg (show ¬ (cop .gtr m.kind 17) = true by simp only [CQ]; omega), s89, Option.bind_some, h1, s90, Option.bind_some, h2, s90, Option.bind_some, h3]
 rw [if_neg (show ¬ (!true) = true by decide), if_neg (show ¬ (!true) = true by decide), if_neg (show ¬ (!true) = true by decide)]
 rw [if_neg (kne (show m.kind ≠ 1 by omega))]
 rw [if_neg (kne (show m.kind ≠ 2 by omega))]
 rw [if_neg (kne (show m.kind ≠ 4 by omega))]
 rw [if_neg (kne (show m.kind ≠ 5 by omega))]
 rw [if_neg (kne (show m.kind ≠ 6 by omega))]
 rw [if_neg (kne (show m.kind ≠ 12 by omega))]
 rw [if_neg (kne (show m.kind ≠ 13 by omega))]
 rw [if_neg (kne (show m.kind ≠ 14 by omega))]
 rw [if_pos (keq hk)]
 simp only [L, s89, Option.bind_some]
 cases hr : rest 15 m with
 | false =>
  simp only [Bool.and_false]
  repeat' split
  all_goals rfl
 | true =>
  have hn := nodes_none (rest_at hr 5 (by omega) rfl)
  have hg := reg_none (rest_at hr 0 (by omega) rfl)
  show _ = some ((fieldOk m 8 && true) && true)
  repeat' split
  all_goals (refine congrArg some ?_; rw [bool_iff]; simp only [fieldOk, slotOk, CQ] at * <;> grind)
theorem s10k16 (m : Msg) (h : m.Fits) (hk : m.kind = 16) (h1 : numOk m.view = true) (h2 : coreOk m.frm = true) (h3 : coreOk m.to = true) : G10 m = some ((kf 16).all (fieldOk m) && rest 16 m) := by
 have L : ∀ ok, G10L m m.kind m.view m.frm m.to m.round 0 0 0 0 0 0 false 0 0 0 0 0 0 0 0 0 0 0 0 0 0 0 0 0 0 0 0 ([] : LL) 0 0 0 0 0 0 false ([] : LL) ([] : LL) ([] : LL) ([] : LL) 0 0 ([] : LL) ([] : LL) ([] : LL) ([] : LL) ([] : LL) ([] : LL) ([] : LL) ([] : LL) 0 0 ([] : LL) ([] : LL) ([] : LL) ([] : LL) ([] : LL) ([] : LL) ([] : LL) ([] : LL) false 0 ([] : LL) ([] : LL) ([] : LL) ([] : LL) ([] : LL) ([] : LL) ([] : LL) ([] : LL) ok 0 = some (ok && (m.nodes.all nodeOk && (regOk m.region && rest 16 m))) := fun ok => by
  have q := l56 m (sel (fun g => (kf 16).contains g) m) h (sel_fits _ h) m.nodes.length 0 FUEL ok (by omega) (by have := fuel63 h.nodes; omega)
  rw [List.drop_zero, sel_same] at q
  exact q
 unfold G10
 rw [g56_eq, if_neg (show ¬ (cop .lss m.kind 1) = true by simp only [CQ]; omega), if_neg (show ¬ (cop .gtr m.kind 17) = true by simp only [CQ]; omega), s89, Option.bind_some, h1, s90, Option.bind_some, h2, s90, Option.bind_some, h3]
 rw [if_neg (show ¬ (!true) = true by decide), if_neg (show ¬ (!true) = true by decide), if_neg (show ¬ (!true) = true by decide)]
 rw [if_neg (kne (show m.kind ≠ 1 by omega))]
 rw [if_neg (kne (show m.kind ≠ 2 by omega))]
 rw [if_neg (kne (show m.kind ≠ 4 by omega))]
 rw [if_neg (kne (show m.kind ≠ 5 by omega))]
 rw [if_neg (kne (show m.kind ≠ 6 by omega))]
 rw [if_neg (kne (show m.kind ≠ 12 by omega))]
 rw [if_neg (kne (show m.kind ≠ 13 by omega))]
 rw [if_neg (kne (show m.kind ≠ 14 by omega))]
 rw [if_neg (kne (show m.kind ≠ 15 by omega))]
 rw [if_pos (keq hk)]
 simp only [L, s89, Option.bind_some]
 cases hr : rest 16 m with
 | false =>
  simp only [Bool.and_false]
  repeat' split
  all_goals rfl
 | true =>
  have hn := nodes_none (rest_at hr 5 (by omega) rfl)
  have hg := reg_none (rest_at hr 0 (by omega) rfl)
  show _ = some ((fieldOk m 8 && true) && true)
  repeat' split
  all_goals (refine congrArg some ?_; rw [bool_iff]; simp only [fieldOk, slotOk, CQ] at * <;> grind)
theorem s10k17 (m : Msg) (h : m.Fits) (hk : m.kind = 17) (h1 : numOk m.view = true) (h2 : coreOk m.frm = true) (h3 : coreOk m.to = true) : G10 m = some ((kf 17).all (fieldOk m) && rest 17 m) := by
 have L : ∀ ok, G10L m m.kind m.view m.frm m.to 0 0 0 0 0 0 0 false 0 0 0 0 0 0 0 0 0 0 0 0 0 0 0 0 0 0 0 0 ([] : LL) 0 0 0 0 0 0 false ([] : LL) ([] : LL) (intCells m.cores) (m.moves.map movec) 0 0 ([] : LL) ([] : LL) ([] : LL) ([] : LL) ([] : LL) ([] : LL) ([] : LL) ([] : LL) 0 0 ([] : LL) ([] : LL) ([] : LL) ([] : LL) ([] : LL) ([] : LL) ([] : LL) ([] : LL) false 0 ([] : LL) ([] : LL) ([] : LL) ([] : LL) ([] : LL) ([] : LL) ([] : LL) ([] : LL) ok 0 = some (ok && (m.nodes.all nodeOk && (regOk m.region && rest 17 m))) := fun ok => by
  have q := l56 m (sel (fun g => (kf 17).contains g) m) h (sel_fits _ h) m.nodes.length 0 FUEL ok (by omega) (by have := fuel63 h.nodes; omega)
  rw [List.drop_zero, sel_same] at q
  exact q
 unfold G10
 rw [g56_eq, if_neg (show ¬ (cop .lss m.kind 1) = true by simp only [CQ]; omega), if_neg (show ¬ (cop .gtr m.kind 17) = true by simp only [CQ]; omega), s89, Option.bind_some, h1, s90, Option.bind_some, h2, s90, Option.bind_some, h3]
 rw [if_neg (show ¬ (!true) = true by decide), if_neg (show ¬ (!true) = true by decide), if_neg (show ¬ (!true) = true by decide)]
 rw [if_neg (kne (show m.kind ≠ 1 by omega))]
 rw [if_neg (kne (show m.kind ≠ 2 by omega))]
 rw [if_neg (kne (show m.kind ≠ 4 by omega))]
 rw [if_neg (kne (show m.kind ≠ 5 by omega))]
 rw [if_neg (kne (show m.kind ≠ 6 by omega))]
 rw [if_neg (kne (show m.kind ≠ 12 by omega))]
 rw [if_neg (kne (show m.kind ≠ 13 by omega))]
 rw [if_neg (kne (show m.kind ≠ 14 by omega))]
 rw [if_neg (kne (show m.kind ≠ 15 by omega))]
 rw [if_neg (kne (show m.kind ≠ 16 by omega))]
 rw [if_pos (keq hk)]
 simp only [L, s95 _ h.cores, s99 _ h.moves, Option.bind_some]
 cases hr : rest 17 m with
 | false =>
  simp only [Bool.and_false]
  repeat' split
  all_goals rfl
 | true =>
  have hn := nodes_none (rest_at hr 5 (by omega) rfl)
  have hg := reg_none (rest_at hr 0 (by omega) rfl)
  show _ = some ((fieldOk m 9 && (fieldOk m 14 && true)) && true)
  repeat' split
  all_goals (refine congrArg some ?_; rw [bool_iff]; simp only [fieldOk, slotOk, CQ] at * <;> grind)
theorem s10_m (m : Msg) (h : m.Fits) : G10 m = some (validB m) := by
 unfold validB headOk
 by_cases hk : 1 ≤ m.kind ∧ m.kind ≤ 17
 ·rw [show kindOk m.kind = true from decide_eq_true hk]
  cases h1 : numOk m.view with
  | false =>
   unfold G10
   rw [g56_eq, if_neg (show ¬ (cop .lss m.kind 1) = true by simp only [CQ]; omega), if_neg (show ¬ (cop .gtr m.kind 17) = true by simp only [CQ]; omega), s89, Option.bind_some, h1]
   rfl
  | true =>
   cases h2 : coreOk m.frm with
   | false =>
    unfold G10
    rw [g56_eq, if_neg (show ¬ (cop .lss m.kind 1) = true by simp only [CQ]; omega), if_neg (show ¬ (cop .gtr m.kind 17) = true by simp only [CQ]; omega), s89, Option.bind_some, h1, s90, Option.bind_some, h2]
    rfl
   | true =>
    cases h3 : coreOk m.to with
    | false =>
     unfold G10
     rw [g56_eq, if_neg (show ¬ (cop .lss m.kind 1) = true by simp only [CQ]; omega), if_neg (show ¬ (cop .gtr m.kind 17) = true by simp only [CQ]; omega), s89, Option.bind_some, h1, s90, Option.bind_some, h2, s90, Option.bind_some, h3]
     rfl
    | true =>
     rcases (show m.kind = 1 ∨ m.kind = 2 ∨ m.kind = 3 ∨ m.kind = 4 ∨ m.kind = 5 ∨ m.kind = 6 ∨ m.kind = 7 ∨ m.kind = 8 ∨ m.kind = 9 ∨ m.kind = 10 ∨ m.kind = 11 ∨ m.kind = 12 ∨ m.kind = 13 ∨ m.kind = 14 ∨ m.kind = 15 ∨ m.kind = 16 ∨ m.kind = 17 by omega) with e | e | e | e | e | e | e | e | e | e | e | e | e | e | e | e | e
     ·rw [s10k1 m h e h1 h2 h3, e]; rfl
     ·rw [s10k2 m h e h1 h2 h3, e]; rfl
     ·rw [s10k3 m h e h1 h2 h3, e]; rfl
     ·rw [s10k4 m h e h1 h2 h3, e]; rfl
     ·rw [s10k5 m h e h1 h2 h3, e]; rfl
     ·rw [s10k6 m h e h1 h2 h3, e]; rfl
     ·rw [s10k7 m h e h1 h2 h3, e]; rfl
     ·rw [s10k8 m h e h1 h2 h3, e]; rfl
     ·rw [s10k9 m h e h1 h2 h3, e]; rfl
     ·rw [s10k10 m h e h1 h2 h3, e]; rfl
     ·rw [s10k11 m h e h1 h2 h3, e]; rfl
     ·rw [s10k12 m h e h1 h2 h3, e]; rfl
     ·rw [s10k13 m h e h1 h2 h3, e]; rfl
     ·rw [s10k14 m h e h1 h2 h3, e]; rfl
     ·rw [s10k15 m h e h1 h2 h3, e]; rfl
     ·rw [s10k16 m h e h1 h2 h3, e]; rfl
     ·rw [s10k17 m h e h1 h2 h3, e]; rfl
 ·unfold G10
  rw [show kindOk m.kind = false from decide_eq_false hk, g56_eq]
  by_cases hl : m.kind < 1
  ·rw [if_pos (show (cop .lss m.kind 1) = true by simp only [CQ]; omega)]; rfl
  ·rw [if_neg (show ¬ (cop .lss m.kind 1) = true by simp only [CQ]; omega), if_pos (show (cop .gtr m.kind 17) = true by simp only [CQ]; omega)]; rfl
theorem s56 (m : Msg) (h : m.Fits) : g56 m.kind m.view m.frm m.to m.round m.region m.slot m.op.core m.op.op m.op.part m.err m.settled m.req.id.core m.req.id.op m.req.id.part m.req.call.kind m.req.call.slot m.req.call.dest m.req.call.core m.req.call.mask m.req.call.object m.req.call.bits m.req.call.level m.req.call.offset m.req.call.count m.req.call.index m.req.call.addr m.req.region m.req.width m.req.src.id.core m.req.src.id.op m.req.src.id.part (idCells m.req.src.path) m.req.src.cap.kind m.req.src.cap.base m.req.src.cap.bits m.req.src.cap.rights m.req.src.cap.width m.req.src.cap.level m.req.src.cap.device (idCells m.ids) (m.nodes.map nodec) (intCells m.cores) (m.moves.map movec) m.base m.next.number (intCells m.next.members) (intCells m.next.owners) (m.state.slots.map slotc) (m.state.pending.map reqc) (m.state.marks.map markc) (m.state.answers.map ansc) (m.state.entries.map entryc) (idCells m.state.commits) m.report.core m.report.view.number (intCells m.report.view.members) (intCells m.report.view.owners) (m.report.state.slots.map slotc) (m.report.state.pending.map reqc) (m.report.state.marks.map markc) (m.report.state.answers.map ansc) (m.report.state.entries.map entryc) (idCells m.report.state.commits) m.report.ready m.report.next.number (intCells m.report.next.members) (intCells m.report.next.owners) (m.report.proposal.slots.map slotc) (m.report.proposal.pending.map reqc) (m.report.proposal.marks.map markc) (m.report.proposal.answers.map ansc) (m.report.proposal.entries.map entryc) (idCells m.report.proposal.commits) = some (validB m) := s10_m m h
end Go.Proofs.YtljejgmcgddppaaGreat
end

section
namespace Go.Proofs.YtljejgmcgddppaaGreat
open Go Go.AM
set_option linter.unusedSimpArgs false
set_option linter.unusedVariables false
set_option maxRecDepth 100000
theorem collect {α : Type} {F : Nat → LL → Int → Option LL} (l : List α) (f : α → LL) (hn : l.length < 2 ^ 63)
  (step : ∀ (k i : Nat) (hi : i < l.length), F (k + 1) ((l.take i).flatMap f) (i : Int) = F k ((l.take i).flatMap f ++ f l[i]) ((i + 1 : Nat) : Int))
  (last : ∀ (k : Nat) (acc : LL) (i : Nat), l.length ≤ i → F (k + 1) acc (i : Int) = some acc) : F FUEL [] 0 = some (l.flatMap f) := by
 have key : ∀ (j i fuel : Nat), l.length ≤ i + j → j < fuel → F fuel ((l.take i).flatMap f) (i : Int) = some (l.flatMap f) := by
  intro j
  induction j with
  | zero =>
   intro i fuel h hf
   obtain ⟨q, rfl⟩ : ∃ q, fuel = q + 1 := ⟨fuel - 1, by omega⟩
   rw [last q _ i (by omega), List.take_of_length_le (by omega)]
  | succ j ih =>
   intro i fuel h hf
   obtain ⟨q, rfl⟩ : ∃ q, fuel = q + 1 := ⟨fuel - 1, by omega⟩
   by_cases hi : i < l.length
   ·have e : (l.take i).flatMap f ++ f l[i] = (l.take (i + 1)).flatMap f := by
     rw [List.take_add_one, List.getElem?_eq_getElem hi, Option.toList_some, List.flatMap_append, List.flatMap_singleton]
    rw [step q i hi, e]
    exact ih (i + 1) q (by omega) (by omega)
   ·rw [last q _ i (by omega), List.take_of_length_le (by omega)]
 exact key l.length 0 FUEL (by omega) (by have := fuel63 hn; omega)
theorem flat_one {α : Type} (f : α → List AV) (l : List α) : l.flatMap (fun x => [f x]) = l.map f := by
 induction l with
 | nil => rfl
 | cons a r ih => rw [List.flatMap_cons, ih, List.map_cons]; rfl
theorem flat_le {α : Type} (f : α → LL) (n : Nat) (h : ∀ x, (f x).length ≤ 1) : ∀ (l : List α), l.length ≤ n → (l.flatMap f).length ≤ n
 | [], _ => Nat.zero_le _
 | a :: r, hl => by
  have := flat_le f (n - 1) h r (by simp at hl; omega)
  have := h a
  simp only [List.flatMap_cons, List.length_append]
  simp only [List.length_cons] at hl
  omega
theorem room_small {a b : LL} {k : Nat} (h : a.length + b.length ≤ 4096) (hk : k ≤ 10000) : roomP a b k := by
 unfold roomP roomMax
 have : (a.length + b.length) * (k + 1) ≤ 4096 * 10001 := Nat.mul_le_mul h (by omega)
 omega
theorem s53 (l : List Id) (h : l.length ≤ 64) : g53 (idCells l) = some (idCells l) := by
 rw [g53_eq]
 exact reqK_pos (room_small (by rw [ids_len]; simp; omega) (by omega)) _
theorem s109 (l : List Id) (h : l.length ≤ 64) : g109 (idCells l) = some (idCells l) := by
 rw [g109_eq]
 refine nilK_of (fun hn => ?_) ?_
 ·rw [if_pos rfl, hn]
 ·rw [if_neg Bool.false_ne_true]
  exact reqK_pos (room_small (by rw [ids_len]; simp; omega) (by omega)) _
theorem s30 (n : Node) (h : n.path.length ≤ 64) : g30 n.id.core n.id.op n.id.part (idCells n.path) n.cap.kind n.cap.base n.cap.bits n.cap.rights n.cap.width n.cap.level n.cap.device = some (nodeV n) := by
 rw [g30_eq, s53 _ h]; rfl
theorem s64 (n : Node) (h : n.path.length ≤ 64) : g64 n.id.core n.id.op n.id.part (idCells n.path) n.cap.kind n.cap.base n.cap.bits n.cap.rights n.cap.width n.cap.level n.cap.device = some (nodeV n) := by
 rw [g64_eq, s109 _ h]; rfl
def viewc (v : View) : List AV := [I v.number, .slice false 1 (intCells v.members), .slice false 1 (intCells v.owners)]
def reportc (r : Report) : List AV := [I r.core] ++ viewc r.view ++ statec r.state ++ [B r.ready] ++ viewc r.next ++ statec r.proposal
def msgc (m : Msg) : List AV := [I m.kind, I m.view, I m.frm, I m.to, I m.round, I m.region, I m.slot, I m.op.core, I m.op.op, I m.op.part, I m.err, B m.settled] ++ reqc m.req ++ [.slice false 3 (idCells m.ids), .slice false 11 (m.nodes.map nodec), .slice false 1 (intCells m.cores), .slice false 2 (m.moves.map movec), I m.base] ++ viewc m.next ++ statec m.state ++ reportc m.report
theorem elem_msgs {γ : Type} {l : List Msg} {i : Nat} (h : i < l.length) (k : Qt2 → Option γ) : elemK (l.map msgc) (i : Int) hs0 k = k (msgT l[i]) := elem_map (f := msgc) (sh := hs0) (v := msgT) (fun _ => rfl) h k
theorem s37 (l : List Msg) (hl : l.length < 2 ^ 63) (hf : ∀ m ∈ l, m.Fits) : g37 (l.map msgc) (l.map msgc) = some true := by
 rw [g37_eq, if_neg (by simp [cop])]
 have := scan_all (F := fun k i => g37L0 k (l.map msgc) (l.map msgc) i) (n := l.length) (fin := some true) (bad := some false) (fun _ => true) hl 0 (by omega)
  (fun k i _ hi => by
   show g37L0 (k + 1) _ _ _ = _
   rw [g37L0_eq, List.length_map, if_pos (lss_t hi)]
   refine (elem_msgs hi _).trans ?_
   refine (elem_msgs hi _).trans ?_
   simp only [msgT, d2, d4, d8, d16]
   have hm := hf l[i] (List.getElem_mem hi)
   rw [s62 l[i] l[i] hm hm, Option.bind_some, sameM_refl, inc_i hi hl]
   rfl)
  (fun k i hi => by show g37L0 (k + 1) _ _ _ = _; rw [g37L0_eq, List.length_map, if_neg (lss_f hi)])
 refine this.trans ?_
 rw [if_pos (by simp)]
structure FewS (l : List Slot) : Prop where
 len : l.length ≤ 70
 path : ∀ s ∈ l, s.node.path.length ≤ 20
end Go.Proofs.YtljejgmcgddppaaGreat
end

section
namespace Go.Proofs.YtljejgmcgddppaaGreat
open Go Go.AM
set_option linter.unusedSimpArgs false
set_option linter.unusedVariables false
set_option maxRecDepth 100000
theorem set_cells {α : Type} (f : α → List AV) (g : α → α) (l : List α) (i o : Nat) (c : List AV) (h : ∀ x, l[i]? = some x → setCells (f x) o c = f (g x)) : setElem (l.map f) i o c = (l.modify i g).map f := by
 unfold setElem
 refine List.ext_getElem? fun j => ?_
 rw [List.getElem?_modify, List.getElem?_map, List.getElem?_map, List.getElem?_modify]
 cases hj : l[j]? with
 | none => rfl
 | some x =>
  by_cases hij : i = j
  ·subst hij
   simp [h x hj]
  ·simp [hij]
theorem modify_id {α : Type} (l : List α) (i : Nat) : l.modify i (fun x => x) = l := by
 refine List.ext_getElem? fun j => ?_
 rw [List.getElem?_modify]
 cases l[j]? <;> simp
theorem set_same {α : Type} (f : α → List AV) (l : List α) (i o : Nat) (c : List AV) (h : ∀ x, l[i]? = some x → setCells (f x) o c = f x) : setElem (l.map f) i o c = l.map f := by
 rw [set_cells f (fun x => x) l i o c h, modify_id]
theorem nat_lt {i n : Nat} (h : i < n) : ((i : Int) < (n : Int)) := by omega
theorem s16 (l : List Slot) (h : FewS l) : g16 (l.map slotc) = some (l.map slotc) := by
 rw [g16_eq]
 have hn : l.length < 2 ^ 63 := by have := h.len; omega
 refine (collect (F := fun k acc i => g16L0 k (l.map slotc) acc i) l (fun r => [slotc r]) hn (fun k i hi => ?_) (fun k acc i hi => ?_)).trans (by rw [flat_one])
 ·show g16L0 (k + 1) _ _ _ = _
  rw [g16L0_eq, List.length_map, if_pos (lss_t hi)]
  refine (elem_slots hi _).trans ?_
  simp only [slotV, d2, d4, d8, d16]
  have hp := h.path l[i] (List.getElem_mem hi)
  rw [s30 l[i].node (by omega), Option.bind_some]
  refine (elem_slots hi _).trans ?_
  refine (elem_slots hi _).trans ?_
  refine (reqK_pos (room_small ?_ (by omega)) _).trans ?_
  ·rw [flat_one]
   have := h.len
   simp only [List.length_map, List.length_take, List.length_append, List.length_cons, List.length_nil]
   omega
  ·rw [inc_i hi hn]
   rfl
 ·show g16L0 (k + 1) _ _ _ = _
  rw [g16L0_eq, List.length_map, if_neg (lss_f hi)]
theorem s63 (l : List Slot) (h : FewS l) : g63 (l.map slotc) = some (l.map slotc) := by
 rw [g63_eq]
 refine nilK_of (fun hn => ?_) ?_
 ·rw [if_pos rfl, hn]
 ·rw [if_neg Bool.false_ne_true]
  refine reqK_pos (room_small (by have := h.len; simp; omega) (by omega)) _
theorem s38 (l : List Slot) (h : FewS l) : g38 (l.map slotc) = some (l.map slotc) := by
 rw [g38_eq, s63 l h, Option.bind_some, List.length_map]
 have hn : l.length < 2 ^ 63 := by have := h.len; omega
 have := scan_all (F := fun k i => g38L0 k (l.map slotc) (l.length : Int) i) (n := l.length) (fin := some (l.map slotc)) (bad := none) (fun _ => true) hn 0 (by omega)
  (fun k i _ hi => by
   show g38L0 (k + 1) _ _ _ = _
   rw [g38L0_eq, if_pos (lss_t hi), List.length_map]
   have hin := nat_lt hi
   refine (reqK_pos (by omega) _).trans ?_
   refine (reqK_pos hin _).trans ?_
   refine (elem_slots hi _).trans ?_
   simp only [slotV, d2, d4, d8, d16]
   have hp := h.path l[i] (List.getElem_mem hi)
   rw [s64 l[i].node (by omega), Option.bind_some]
   refine (reqK_pos (by omega) _).trans ?_
   refine (reqK_pos hin _).trans ?_
   refine (reqK_pos (by omega) _).trans ?_
   refine (reqK_pos hin _).trans ?_
   rw [inc_i hi hn]
   refine Eq.trans ?_ (if_pos trivial).symm
   refine congrArg (fun x => g38L0 k x (l.length : Int) ((i + 1 : Nat) : Int)) ?_
   refine set_same slotc l _ 0 (nodec l[i].node) fun x hx => ?_
   have hx' : l[i] = x := by
    rw [Int.toNat_natCast, List.getElem?_eq_getElem hi] at hx
    exact Option.some.inj hx
   rw [hx']
   rfl)
  (fun k i hi => by show g38L0 (k + 1) _ _ _ = _; rw [g38L0_eq, if_neg (lss_f hi)])
 refine this.trans ?_
 rw [if_pos (by simp)]
def busyS (s : Slot) : Bool := if (cop .neq s.op 0) = true then true else !((cop .eql s.lock.core 0) && ((cop .eql s.lock.op 0) && ((cop .eql s.lock.part 0) && true)))
theorem s71 (s : Slot) : g71 s.node.id.core s.node.id.op s.node.id.part (idCells s.node.path) s.node.cap.kind s.node.cap.base s.node.cap.bits s.node.cap.rights s.node.cap.width s.node.cap.level s.node.cap.device s.op s.lock.core s.lock.op s.lock.part = some (busyS s) := by
 rw [g71_eq, busyS]
 split <;> rfl
theorem s20 (s : Slot) : g20 s.node.id.core s.node.id.op s.node.id.part (idCells s.node.path) s.node.cap.kind s.node.cap.base s.node.cap.bits s.node.cap.rights s.node.cap.width s.node.cap.level s.node.cap.device s.op s.lock.core s.lock.op s.lock.part = some (busyS s) := by
 rw [g20_eq, busyS]
 split <;> rfl
theorem elem_slot_at {γ : Type} {l : List Slot} {v : Int} (h0 : 0 ≤ v) (h : v.toNat < l.length) (k : ShsT slotSh → Option γ) : elemK (l.map slotc) v slotSh k = k (slotV l[v.toNat]) := by
 have e : v = ((v.toNat : Nat) : Int) := by omega
 have := elem_slots h k
 rwa [← e] at this
end Go.Proofs.YtljejgmcgddppaaGreat
end

section
namespace Go.Proofs.YtljejgmcgddppaaGreat
open Go Go.AM
set_option linter.unusedSimpArgs false
set_option linter.unusedVariables false
set_option maxRecDepth 100000
theorem scan_stop {γ : Type} {F : Nat → Int → Option γ} {n : Nat} (hit : Nat → γ) (p : Nat → Bool) (hn : n < 2 ^ 63)
  (step : ∀ k i : Nat, i < n → F (k + 1) (i : Int) = if p i = true then some (hit i) else F k ((i + 1 : Nat) : Int))
  (last : ∀ k : Nat, F (k + 1) (n : Int) = some (hit n)) (m : Nat) (hm : m ≤ n) (h1 : ∀ j, j < m → p j = false) (h2 : m < n → p m = true) : F FUEL 0 = some (hit m) := by
 have key : ∀ (j i fuel : Nat), i + j = m → n - i < fuel → F fuel (i : Int) = some (hit m) := by
  intro j
  induction j with
  | zero =>
   intro i fuel h hf
   obtain ⟨q, rfl⟩ : ∃ q, fuel = q + 1 := ⟨fuel - 1, by omega⟩
   have : i = m := by omega
   subst this
   by_cases hi : i < n
   ·rw [step q i hi, if_pos (h2 hi)]
   ·have : i = n := by omega
    subst this
    exact last q
  | succ j ih =>
   intro i fuel h hf
   obtain ⟨q, rfl⟩ : ∃ q, fuel = q + 1 := ⟨fuel - 1, by omega⟩
   rw [step q i (by omega), if_neg (by rw [h1 i (by omega)]; exact Bool.false_ne_true)]
   exact ih (i + 1) q (by omega) (by omega)
 exact key m 0 FUEL (by omega) (by have := fuel63 hn; omega)
def fst' {α : Type} (q : α → Bool) : List α → Nat
 | [] => 0
 | a :: r => match q a with | true => 0 | false => fst' q r + 1
theorem fst_le {α : Type} (q : α → Bool) : ∀ (l : List α), fst' q l ≤ l.length
 | [] => Nat.le_refl _
 | a :: r => by
  unfold fst'
  have := fst_le q r
  split <;> simp only [List.length_cons] <;> omega
theorem fst_lt {α : Type} (q : α → Bool) : ∀ (l : List α) (j : Nat) (hj : j < l.length), j < fst' q l → q l[j] = false
 | [], j, hj, _ => by simp at hj
 | a :: r, j, hj, h => by
  unfold fst' at h
  split at h
  ·omega
  ·rename_i ha
   cases j with
   | zero => exact ha
   | succ j => exact fst_lt q r j (by simpa using hj) (by omega)
theorem fst_at {α : Type} (q : α → Bool) : ∀ (l : List α) (h : fst' q l < l.length), q l[fst' q l] = true
 | [], h => by simp at h
 | a :: r, h => by
  cases ha : q a with
  | true =>
   have e : fst' q (a :: r) = 0 := by unfold fst'; rw [ha]
   simp only [e]
   exact ha
  | false =>
   have e : fst' q (a :: r) = fst' q r + 1 := by rw [fst']; rw [ha]
   have h' : fst' q r < r.length := by rw [e] at h; simpa using h
   have := fst_at q r h'
   simp only [e]
   exact this
def hitZ (n m : Nat) : Int := if m < n then (m : Int) else -1
theorem hitZ_lt {n m : Nat} (h : m < n) : hitZ n m = (m : Int) := if_pos h
def before (r q : Req) : Bool := ltId r.id q.id
theorem sameS_refl (a : Slot) : sameS a a = true := by simp [sameS, sameN_refl]
end Go.Proofs.YtljejgmcgddppaaGreat
end

section
namespace Go.Proofs.YtljejgmcgddppaaGreat
open Go Go.AM
set_option linter.unusedSimpArgs false
set_option linter.unusedVariables false
set_option maxRecDepth 100000
theorem loop_to {σ γ : Type} {F : Nat → σ → Int → Option γ} {n : Nat} (S : Nat → σ) {fin : Option γ} (hn : n < 2 ^ 63)
  (step : ∀ k i : Nat, i < n → F (k + 1) (S i) (i : Int) = F k (S (i + 1)) ((i + 1 : Nat) : Int)) (last : ∀ k : Nat, F (k + 1) (S n) (n : Int) = fin) : F FUEL (S 0) 0 = fin := by
 have key : ∀ (j i fuel : Nat), i + j = n → j < fuel → F fuel (S i) (i : Int) = fin := by
  intro j
  induction j with
  | zero =>
   intro i fuel h hf
   obtain ⟨q, rfl⟩ : ∃ q, fuel = q + 1 := ⟨fuel - 1, by omega⟩
   have : i = n := by omega
   subst this
   exact last q
  | succ j ih =>
   intro i fuel h hf
   obtain ⟨q, rfl⟩ : ∃ q, fuel = q + 1 := ⟨fuel - 1, by omega⟩
   rw [step q i (by omega)]
   exact ih (i + 1) q (by omega) (by omega)
 exact key n 0 FUEL (by omega) (by have := fuel63 hn; omega)
def upto {α : Type} (f : α → α) (l : List α) (i : Nat) : List α := (l.take i).map f ++ l.drop i
theorem upto_len {α : Type} (f : α → α) (l : List α) (i : Nat) : (upto f l i).length = l.length := by simp [upto]; omega
theorem upto_zero {α : Type} (f : α → α) (l : List α) : upto f l 0 = l := by simp [upto]
theorem upto_all {α : Type} (f : α → α) (l : List α) : upto f l l.length = l.map f := by simp [upto]
theorem upto_get {α : Type} (f : α → α) (l : List α) (i j : Nat) : (upto f l i)[j]? = (l[j]?).map (if j < i then f else id) := by
 unfold upto
 by_cases h : j < i
 ·by_cases hj : j < l.length
  ·rw [List.getElem?_append_left (by simp; omega), if_pos h]
   simp [List.getElem?_take, h]
  ·rw [List.getElem?_eq_none (by simp; omega), List.getElem?_eq_none (by omega)]; rfl
 ·rw [if_neg h]
  by_cases hi : i ≤ l.length
  ·rw [List.getElem?_append_right (by simp; omega), List.getElem?_drop]
   simp
   congr 1; omega
  ·rw [List.getElem?_eq_none (by simp; omega), List.getElem?_eq_none (by omega)]; rfl
theorem upto_mod {α : Type} (f : α → α) (l : List α) (i : Nat) : (upto f l i).modify i f = upto f l (i + 1) := by
 refine List.ext_getElem? fun j => ?_
 rw [List.getElem?_modify, upto_get, upto_get]
 cases l[j]? with
 | none => rfl
 | some x =>
  by_cases hij : i = j
  ·subst hij; simp
  ·have : (j < i + 1) ↔ (j < i) := by omega
   simp [hij, this]
theorem upto_at {α : Type} (f : α → α) (l : List α) {i : Nat} (hi : i < l.length) : (upto f l i)[i]'(by rw [upto_len]; exact hi) = l[i] := by
 have h := upto_get f l i i
 rw [List.getElem?_eq_getElem (by rw [upto_len]; exact hi), List.getElem?_eq_getElem hi] at h
 simpa using h
theorem upto_same {α : Type} (f : α → α) (l : List α) {i : Nat} (hi : i < l.length) (h : f l[i] = l[i]) : upto f l (i + 1) = upto f l i := by
 refine List.ext_getElem? fun j => ?_
 rw [upto_get, upto_get]
 by_cases hij : j = i
 ·subst hij
  rw [List.getElem?_eq_getElem hi]; simp [h]
 ·have : (j < i + 1) ↔ (j < i) := by omega
  simp only [this]
theorem elem_upto {γ : Type} (f : Slot → Slot) (l : List Slot) {i : Nat} (hi : i < l.length) (k : ShsT slotSh → Option γ) : elemK ((upto f l i).map slotc) (i : Int) slotSh k = k (slotV l[i]) := by
 have h : i < (upto f l i).length := by rw [upto_len]; exact hi
 rw [elem_slots h, upto_at f l hi]
def emptyS (s : Slot) : Bool := decide (s.node.id = zid)
theorem empty_dec (s : Slot) : ((cop .eql s.node.id.core 0) && ((cop .eql s.node.id.op 0) && ((cop .eql s.node.id.part 0) && true))) = emptyS s := by
 rw [bool_iff, zid_eqb]
 unfold emptyS
 rw [decide_eq_true_eq]
theorem s72 (s : Slot) : g72 s.node.id.core s.node.id.op s.node.id.part (idCells s.node.path) s.node.cap.kind s.node.cap.base s.node.cap.bits s.node.cap.rights s.node.cap.width s.node.cap.level s.node.cap.device s.op s.lock.core s.lock.op s.lock.part = some (emptyS s) := by rw [g72_eq, empty_dec]
theorem s21 (s : Slot) : g21 s.node.id.core s.node.id.op s.node.id.part (idCells s.node.path) s.node.cap.kind s.node.cap.base s.node.cap.bits s.node.cap.rights s.node.cap.width s.node.cap.level s.node.cap.device s.op s.lock.core s.lock.op s.lock.part = some (emptyS s) := by rw [g21_eq, empty_dec]
def lockS (ids : List Id) (by_ : Id) (s : Slot) : Slot := if emptyS s = false ∧ ids.contains s.node.id = true then { s with lock := by_ } else s
theorem lock_no {ids : List Id} {b : Id} {s : Slot} (h : ¬ (emptyS s = false ∧ ids.contains s.node.id = true)) : lockS ids b s = s := if_neg h
theorem set_lock (ids : List Id) (b : Id) (l : List Slot) {i : Nat} (hi : i < l.length) (h : emptyS l[i] = false ∧ ids.contains l[i].node.id = true) : setElem ((upto (lockS ids b) l i).map slotc) i 12 [I b.core, I b.op, I b.part] = (upto (lockS ids b) l (i + 1)).map slotc := by
 rw [← upto_mod]
 refine set_cells slotc _ _ i 12 _ fun x hx => ?_
 rw [upto_get, List.getElem?_eq_getElem hi] at hx
 simp at hx
 subst hx
 unfold lockS
 rw [if_pos h]
 rfl
theorem l43 (ids : List Id) (hi : ids.length < 2 ^ 63) (b : Id) (l : List Slot) (hn : l.length < 2 ^ 63) : g43L0 FUEL (idCells ids) b.core b.op b.part (l.map slotc) (l.length : Int) 0 = some ((l.map (lockS ids b)).map slotc) := by
 have := loop_to (F := fun k x i => g43L0 k (idCells ids) b.core b.op b.part x (l.length : Int) i) (n := l.length) (fun i => (upto (lockS ids b) l i).map slotc) (fin := some ((l.map (lockS ids b)).map slotc)) hn
  (fun k i hil => by
   show g43L0 (k + 1) _ _ _ _ _ _ _ = _
   have hul : ((upto (lockS ids b) l i).map slotc).length = l.length := by rw [List.length_map, upto_len]
   rw [g43L0_eq, if_pos (lss_t hil), hul]
   refine (reqK_pos (by omega) _).trans ?_
   refine (reqK_pos (by omega) _).trans ?_
   refine (elem_upto _ l hil _).trans ?_
   simp only [slotV, d2, d4, d8, d16]
   rw [s72, Option.bind_some, inc_i hil hn]
   refine ite_goal (fun h1 => ?_) fun h1 => ?_
   ·refine (reqK_pos (by omega) _).trans ?_
    refine (reqK_pos (by omega) _).trans ?_
    refine (elem_upto _ l hil _).trans ?_
    simp only [slotV, d2, d4, d8, d16]
    rw [s76 ids hi, Option.bind_some]
    refine ite_goal (fun h2 => ?_) fun h2 => ?_
    ·refine (reqK_pos (by omega) _).trans ?_
     refine (reqK_pos (by omega) _).trans ?_
     refine (reqK_pos (by omega) _).trans ?_
     refine (reqK_pos (by omega) _).trans ?_
     rw [Int.toNat_natCast, set_lock ids b l hil ⟨by simpa using h1, h2⟩]
    ·rw [upto_same (lockS ids b) l hil (lock_no fun h => h2 h.2)]
   ·rw [upto_same (lockS ids b) l hil (lock_no fun h => h1 (by simp [h.1]))])
  (fun k => by
   show g43L0 (k + 1) _ _ _ _ _ _ _ = _
   rw [g43L0_eq, if_neg (lss_f (Nat.le_refl _)), upto_all])
 simp only [upto_zero] at this
 exact this
theorem s43 (l : List Slot) (h : FewS l) (ids : List Id) (hi : ids.length < 2 ^ 63) (b : Id) : g43 (l.map slotc) (idCells ids) b.core b.op b.part = some ((l.map (lockS ids b)).map slotc) := by
 have hn : l.length < 2 ^ 63 := by have := h.len; omega
 rw [g43_eq, s38 l h, Option.bind_some, List.length_map]
 exact l43 ids hi b l hn
theorem s58 (l : List Slot) (h : FewS l) (ids : List Id) (hi : ids.length < 2 ^ 63) (b : Id) : g58 (l.map slotc) (idCells ids) b.core b.op b.part = some ((l.map (lockS ids b)).map slotc) := by
 have hn : l.length < 2 ^ 63 := by have := h.len; omega
 rw [g58_eq, s16 l h, Option.bind_some]
 have := loop_to (F := fun k x i => g58L0 k (idCells ids) b.core b.op b.part x i) (n := l.length) (fun i => (upto (lockS ids b) l i).map slotc) (fin := some ((l.map (lockS ids b)).map slotc)) hn
  (fun k i hil => by
   show g58L0 (k + 1) _ _ _ _ _ _ = _
   have hul : ((upto (lockS ids b) l i).map slotc).length = l.length := by rw [List.length_map, upto_len]
   rw [g58L0_eq, hul, if_pos (lss_t hil)]
   refine (reqK_pos (by omega) _).trans ?_
   refine (reqK_pos (by omega) _).trans ?_
   refine (elem_upto _ l hil _).trans ?_
   simp only [slotV, d2, d4, d8, d16]
   rw [s21, Option.bind_some, inc_i hil hn]
   refine ite_goal (fun h1 => ?_) fun h1 => ?_
   ·refine (reqK_pos (by omega) _).trans ?_
    refine (reqK_pos (by omega) _).trans ?_
    refine (elem_upto _ l hil _).trans ?_
    simp only [slotV, d2, d4, d8, d16]
    rw [s18 ids hi, Option.bind_some]
    refine ite_goal (fun h2 => ?_) fun h2 => ?_
    ·refine (reqK_pos (by omega) _).trans ?_
     refine (reqK_pos (by omega) _).trans ?_
     refine (reqK_pos (by omega) _).trans ?_
     refine (reqK_pos (by omega) _).trans ?_
     rw [Int.toNat_natCast, set_lock ids b l hil ⟨by simpa using h1, h2⟩]
    ·rw [upto_same (lockS ids b) l hil (lock_no fun h => h2 h.2)]
   ·rw [upto_same (lockS ids b) l hil (lock_no fun h => h1 (by simp [h.1]))])
  (fun k => by
   show g58L0 (k + 1) _ _ _ _ _ _ = _
   rw [g58L0_eq, List.length_map, upto_len, if_neg (lss_f (Nat.le_refl _)), upto_all])
 simp only [upto_zero] at this
 exact this
def swept (b : Id) (s : Slot) : Bool := !emptyS s && decide (s.lock = b)
def sweepS (b : Id) (s : Slot) : Slot := if swept b s = true then { s with node := noNode, lock := zid } else s
def sweepL (b : Id) (l : List Slot) : List Slot := if b = zid then l else l.map (sweepS b)
def sweepI (b : Id) (l : List Slot) : List Id := if b = zid then [] else (l.filter (swept b)).map (·.node.id)
def nodeZ : List AV := [I 0, I 0, I 0, AV.slice false 3 ([] : LL), I 0, I 0, I 0, I 0, I 0, I 0, AV.val (.bool false)]
theorem lock_dec (s : Slot) (b : Id) : ((cop .eql s.lock.core b.core) && ((cop .eql s.lock.op b.op) && ((cop .eql s.lock.part b.part) && true))) = decide (s.lock = b) := by
 rw [bool_iff, id_eqb, decide_eq_true_eq]
theorem set_sweep (b : Id) (l : List Slot) {i : Nat} (hi : i < l.length) (h : swept b l[i] = true) : setElem (setElem ((upto (sweepS b) l i).map slotc) i 0 nodeZ) i 12 [I 0, I 0, I 0] = (upto (sweepS b) l (i + 1)).map slotc := by
 have e1 : setElem ((upto (sweepS b) l i).map slotc) i 0 nodeZ = ((upto (sweepS b) l i).modify i fun s => { s with node := noNode }).map slotc := set_cells slotc _ _ i 0 _ fun x _ => rfl
 have e2 : setElem (((upto (sweepS b) l i).modify i fun s => { s with node := noNode }).map slotc) i 12 [I 0, I 0, I 0] = (((upto (sweepS b) l i).modify i fun s => { s with node := noNode }).modify i fun s => { s with lock := zid }).map slotc := set_cells slotc _ _ i 12 _ fun x _ => rfl
 rw [e1, e2, ← upto_mod]
 congr 1
 refine List.ext_getElem? fun j => ?_
 rw [List.getElem?_modify, List.getElem?_modify, List.getElem?_modify]
 by_cases hij : i = j
 ·subst hij
  rw [upto_get, List.getElem?_eq_getElem hi]
  simp [sweepS, h]
 ·cases (upto (sweepS b) l i)[j]? <;> simp [hij]
theorem ids_snoc' (l : List Id) (x : Id) : idCells l ++ (([] : LL) ++ [[I x.core, I x.op, I x.part]]) = idCells (l ++ [x]) := by
 simp [idCells, idc]
theorem filt_take (b : Id) (l : List Slot) {i : Nat} (hi : i < l.length) : ((l.take (i + 1)).filter (swept b)).map (·.node.id) = ((l.take i).filter (swept b)).map (·.node.id) ++ (if swept b l[i] = true then [l[i].node.id] else []) := by
 rw [List.take_add_one, List.getElem?_eq_getElem hi, Option.toList_some, List.filter_append, List.map_append]
 by_cases h : swept b l[i] = true
 ·simp [h]
 ·simp [h]
theorem sweep_room (b : Id) (l : List Slot) (h : FewS l) (i : Nat) (x : LL) (hx : x.length = 1) : roomP (idCells (((l.take i).filter (swept b)).map (·.node.id))) x 24 := by
 have h1 := h.len
 have h2 : ((l.take i).filter (swept b)).length ≤ 70 := by
  refine Nat.le_trans (List.length_filter_le _ _) ?_
  rw [List.length_take]; omega
 exact room_small (by rw [ids_len, List.length_map, hx]; omega) (by omega)
theorem s45 (l : List Slot) (h : FewS l) (b : Id) : g45 (l.map slotc) b.core b.op b.part = some ((sweepL b l).map slotc, idCells (sweepI b l)) := by
 have hn : l.length < 2 ^ 63 := by have := h.len; omega
 rw [g45_eq, s38 l h, Option.bind_some, List.length_map, sweepL, sweepI]
 refine ite_goal (fun hz => ?_) fun hz => ?_
 ·have hz' : b = zid := by have := (zid_eqb b.core b.op b.part).1 hz; exact this
  rw [if_pos hz', if_pos hz']; rfl
 ·have hz' : ¬ b = zid := fun e => hz ((zid_eqb b.core b.op b.part).2 e)
  rw [if_neg hz', if_neg hz']
  have := loop_to (F := fun k (x : LL × LL) i => g45L0 k b.core b.op b.part x.1 x.2 (l.length : Int) i) (n := l.length) (fun i => ((upto (sweepS b) l i).map slotc, idCells (((l.take i).filter (swept b)).map (·.node.id)))) (fin := some ((l.map (sweepS b)).map slotc, idCells ((l.filter (swept b)).map (·.node.id)))) hn
   (fun k i hil => by
    show g45L0 (k + 1) _ _ _ _ _ _ _ = _
    have hul : ((upto (sweepS b) l i).map slotc).length = l.length := by rw [List.length_map, upto_len]
    rw [g45L0_eq, if_pos (lss_t hil), hul]
    refine (reqK_pos (by omega) _).trans ?_
    refine (reqK_pos (by omega) _).trans ?_
    refine (elem_upto _ l hil _).trans ?_
    simp only [slotV, d2, d4, d8, d16]
    rw [s72, Option.bind_some, inc_i hil hn, filt_take b l hil]
    refine ite_goal (fun h1 => ?_) fun h1 => ?_
    ·refine (reqK_pos (by omega) _).trans ?_
     refine (reqK_pos (by omega) _).trans ?_
     refine (elem_upto _ l hil _).trans ?_
     simp only [slotV, d2, d4, d8, d16]
     refine ite_goal (fun h2 => ?_) fun h2 => ?_
     ·rw [lock_dec] at h2
      have hs : swept b l[i] = true := by simp only [Bool.not_eq_true'] at h1; simp [swept, h1]; simpa using h2
      refine (reqK_pos (by omega) _).trans ?_
      refine (reqK_pos (by omega) _).trans ?_
      refine (elem_upto _ l hil _).trans ?_
      simp only [slotV, d2, d4, d8, d16]
      refine (reqK_pos (sweep_room b l h i _ rfl) _).trans ?_
      refine (reqK_pos (by omega) _).trans ?_
      refine (reqK_pos (by omega) _).trans ?_
      refine (reqK_pos (by omega) _).trans ?_
      refine (reqK_pos (by omega) _).trans ?_
      have hsl : (setElem ((upto (sweepS b) l i).map slotc) i 0 nodeZ).length = l.length := by
       have e1 : setElem ((upto (sweepS b) l i).map slotc) i 0 nodeZ = ((upto (sweepS b) l i).modify i fun s => { s with node := noNode }).map slotc := set_cells slotc _ _ i 0 _ fun x _ => rfl
       rw [e1, List.length_map, List.length_modify, upto_len]
      rw [Int.toNat_natCast]
      refine (reqK_pos (by omega) _).trans ?_
      refine (reqK_pos (by show (i : Int) < ((setElem ((upto (sweepS b) l i).map slotc) i 0 nodeZ).length : Int); rw [hsl]; omega) _).trans ?_
      refine (reqK_pos (by omega) _).trans ?_
      refine (reqK_pos (by show (i : Int) < ((setElem ((upto (sweepS b) l i).map slotc) i 0 nodeZ).length : Int); rw [hsl]; omega) _).trans ?_
      have hst := set_sweep b l hil hs
      simp only [hs, if_true]
      rw [ids_snoc']
      exact congrArg (fun x => g45L0 k b.core b.op b.part x _ _ _) hst
     ·rw [lock_dec] at h2
      have hs : swept b l[i] = false := by simp only [Bool.not_eq_true', decide_eq_true_eq] at h1 h2; simp [swept, h1, h2]
      rw [hs, if_neg Bool.false_ne_true, List.append_nil, upto_same (sweepS b) l hil (by simp [sweepS, hs])]
    ·have hs : swept b l[i] = false := by simp only [Bool.not_eq_true', Bool.not_eq_false] at h1; simp [swept, h1]
     rw [hs, if_neg Bool.false_ne_true, List.append_nil, upto_same (sweepS b) l hil (by simp [sweepS, hs])])
   (fun k => by
    show g45L0 (k + 1) _ _ _ _ _ _ _ = _
    rw [g45L0_eq, if_neg (lss_f (Nat.le_refl _)), upto_all, List.take_length])
  simp only [upto_zero, List.take_zero, List.filter_nil, List.map_nil] at this
  exact this
theorem s61 (l : List Slot) (h : FewS l) (b : Id) : g61 (l.map slotc) b.core b.op b.part = some ((sweepL b l).map slotc, idCells (sweepI b l)) := by
 have hn : l.length < 2 ^ 63 := by have := h.len; omega
 rw [g61_eq, s16 l h, Option.bind_some, sweepL, sweepI]
 by_cases hz : b = zid
 ·rw [if_pos hz, if_pos hz]
  have := loop_to (F := fun k (x : LL × LL) i => g61L0 k b.core b.op b.part x.1 x.2 i) (n := l.length) (fun _ => (l.map slotc, [])) (fin := some (l.map slotc, [])) hn
   (fun k i hil => by
    show g61L0 (k + 1) _ _ _ _ _ _ = _
    have hul : (l.map slotc).length = l.length := List.length_map _
    rw [g61L0_eq, hul, if_pos (lss_t hil)]
    refine (reqK_pos (by omega) _).trans ?_
    refine (reqK_pos (by omega) _).trans ?_
    refine (elem_slots hil _).trans ?_
    simp only [slotV, d2, d4, d8, d16]
    rw [s21, Option.bind_some, inc_i hil hn]
    refine ite_goal (fun h1 => ?_) fun h1 => rfl
    refine (reqK_pos (by omega) _).trans ?_
    refine (reqK_pos (by omega) _).trans ?_
    refine (elem_slots hil _).trans ?_
    simp only [slotV, d2, d4, d8, d16]
    refine ite_goal (fun h2 => ?_) fun h2 => rfl
    refine ite_goal (fun h3 => ?_) fun h3 => rfl
    rw [Bool.not_eq_true', ← Bool.not_eq_true, zid_eqb] at h3
    exact (h3 hz).elim)
   (fun k => by
    show g61L0 (k + 1) _ _ _ _ _ _ = _
    rw [g61L0_eq, List.length_map, if_neg (lss_f (Nat.le_refl _))])
  exact this
 ·rw [if_neg hz, if_neg hz]
  have := loop_to (F := fun k (x : LL × LL) i => g61L0 k b.core b.op b.part x.1 x.2 i) (n := l.length) (fun i => ((upto (sweepS b) l i).map slotc, idCells (((l.take i).filter (swept b)).map (·.node.id)))) (fin := some ((l.map (sweepS b)).map slotc, idCells ((l.filter (swept b)).map (·.node.id)))) hn
   (fun k i hil => by
    show g61L0 (k + 1) _ _ _ _ _ _ = _
    have hul : ((upto (sweepS b) l i).map slotc).length = l.length := by rw [List.length_map, upto_len]
    rw [g61L0_eq, hul, if_pos (lss_t hil)]
    refine (reqK_pos (by omega) _).trans ?_
    refine (reqK_pos (by omega) _).trans ?_
    refine (elem_upto _ l hil _).trans ?_
    simp only [slotV, d2, d4, d8, d16]
    rw [s21, Option.bind_some, inc_i hil hn, filt_take b l hil]
    refine ite_goal (fun h1 => ?_) fun h1 => ?_
    ·refine (reqK_pos (by omega) _).trans ?_
     refine (reqK_pos (by omega) _).trans ?_
     refine (elem_upto _ l hil _).trans ?_
     simp only [slotV, d2, d4, d8, d16]
     refine ite_goal (fun h2 => ?_) fun h2 => ?_
     ·rw [lock_dec] at h2
      have hs : swept b l[i] = true := by simp only [Bool.not_eq_true'] at h1; simp [swept, h1]; simpa using h2
      refine (if_pos (by rw [Bool.not_eq_true', ← Bool.not_eq_true, zid_eqb]; exact hz)).trans ?_
      refine (reqK_pos (by omega) _).trans ?_
      refine (reqK_pos (by omega) _).trans ?_
      refine (elem_upto _ l hil _).trans ?_
      simp only [slotV, d2, d4, d8, d16]
      refine (reqK_pos (sweep_room b l h i _ rfl) _).trans ?_
      refine (reqK_pos (by omega) _).trans ?_
      refine (reqK_pos (by omega) _).trans ?_
      refine (reqK_pos (by omega) _).trans ?_
      refine (reqK_pos (by omega) _).trans ?_
      have hsl : (setElem ((upto (sweepS b) l i).map slotc) i 0 nodeZ).length = l.length := by
       have e1 : setElem ((upto (sweepS b) l i).map slotc) i 0 nodeZ = ((upto (sweepS b) l i).modify i fun s => { s with node := noNode }).map slotc := set_cells slotc _ _ i 0 _ fun x _ => rfl
       rw [e1, List.length_map, List.length_modify, upto_len]
      rw [Int.toNat_natCast]
      refine (reqK_pos (by omega) _).trans ?_
      refine (reqK_pos (by show (i : Int) < ((setElem ((upto (sweepS b) l i).map slotc) i 0 nodeZ).length : Int); rw [hsl]; omega) _).trans ?_
      refine (reqK_pos (by omega) _).trans ?_
      refine (reqK_pos (by show (i : Int) < ((setElem ((upto (sweepS b) l i).map slotc) i 0 nodeZ).length : Int); rw [hsl]; omega) _).trans ?_
      have hst := set_sweep b l hil hs
      simp only [hs, if_true]
      rw [ids_snoc']
      exact congrArg (fun x => g61L0 k b.core b.op b.part x _ _) hst
     ·rw [lock_dec] at h2
      have hs : swept b l[i] = false := by simp only [Bool.not_eq_true', decide_eq_true_eq] at h1 h2; simp [swept, h1, h2]
      rw [hs, if_neg Bool.false_ne_true, List.append_nil, upto_same (sweepS b) l hil (by simp [sweepS, hs])]
    ·have hs : swept b l[i] = false := by simp only [Bool.not_eq_true', Bool.not_eq_false] at h1; simp [swept, h1]
     rw [hs, if_neg Bool.false_ne_true, List.append_nil, upto_same (sweepS b) l hil (by simp [sweepS, hs])])
   (fun k => by
    show g61L0 (k + 1) _ _ _ _ _ _ = _
    rw [g61L0_eq, List.length_map, upto_len, if_neg (lss_f (Nat.le_refl _)), upto_all, List.take_length])
  simp only [upto_zero, List.take_zero, List.filter_nil, List.map_nil] at this
  exact this
end Go.Proofs.YtljejgmcgddppaaGreat
end

section
namespace Go.Proofs.YtljejgmcgddppaaGreat
open Go Go.AM
set_option linter.unusedSimpArgs false
set_option linter.unusedVariables false
set_option maxRecDepth 100000
theorem hit_eq (s : Slot) (i : Id) : hitS i s = (!emptyS s && decide (s.node.id = i)) := rfl
theorem nid_dec (s : Slot) (i : Id) : ((cop .eql s.node.id.core i.core) && ((cop .eql s.node.id.op i.op) && ((cop .eql s.node.id.part i.part) && true))) = decide (s.node.id = i) := by
 rw [bool_iff, id_eqb, decide_eq_true_eq]
theorem s23' (l : List Slot) (hl : l.length < 2 ^ 63) (i : Id) : ∃ r, g23 (l.map slotc) i.core i.op i.part = some r ∧ cop .geq r 0 = l.any (hitS i) := by
 rw [g23_eq]
 have := scan_hit (F := fun k j => g23L0 k (l.map slotc) i.core i.op i.part j) (n := l.length) (miss := (-1 : Int)) (fun j => (j : Int)) (atB (hitS i) l) hl
  (fun k j hj => by
   show g23L0 (k + 1) _ _ _ _ _ = _
   rw [g23L0_eq, slots_len, if_pos (lss_t hj)]
   refine (elem_slots hj _).trans ?_
   simp only [slotV, d2, d4, d8, d16]
   rw [s21, Option.bind_some, inc_i hj hl, atB_at _ hj, hit_eq]
   refine ite_goal (fun h1 => ?_) fun h1 => ?_
   ·refine (elem_slots hj _).trans ?_
    simp only [slotV, d2, d4, d8, d16]
    refine ite_goal (fun h2 => ?_) fun h2 => ?_
    ·rw [nid_dec] at h2
     rw [if_pos (by rw [h1, h2]; rfl)]
    ·rw [nid_dec] at h2
     rw [if_neg (by simp only [Bool.not_eq_true] at h2; rw [h2]; simp)]
   ·rw [if_neg (by simp only [Bool.not_eq_true] at h1; rw [h1]; simp)])
  (fun k j hj => by show g23L0 (k + 1) _ _ _ _ _ = _; rw [g23L0_eq, slots_len, if_neg (lss_f hj)])
 rcases this with ⟨j, h1, h2, h3, h4⟩ | ⟨h1, h2⟩
 ·refine ⟨_, h4, ?_⟩
  have e : l.any (hitS i) = true := by
   rw [atB_at _ h1] at h2
   exact List.any_eq_true.2 ⟨l[j], List.getElem_mem h1, h2⟩
  rw [e]; simp only [cop]; simp
 ·refine ⟨_, h2, ?_⟩
  have e : l.any (hitS i) = false := by
   rw [List.any_eq_false]
   intro x hx
   obtain ⟨j, hj, rfl⟩ := List.getElem_of_mem hx
   have := h1 j hj
   rw [atB_at _ hj] at this
   rw [this]; exact Bool.false_ne_true
  rw [e]; rfl
def setN (n : Node) (s : Slot) : Slot := { s with node := n }
def putErr (l : List Slot) (z : Int) (n : Node) : Int :=
 if z < 0 ∨ (l.length : Int) ≤ z ∨ nodeOk n = false ∨ l.any (hitS n.id) = true then 1 else if (l[z.toNat]?).any (fun s => !emptyS s) = true then 3 else 0
def putL (l : List Slot) (z : Int) (n : Node) : List Slot := if putErr l z n = 0 then l.modify z.toNat (setN n) else []
theorem nodeOk_path {n : Node} (h : nodeOk n = true) : n.path.length ≤ 8 := by
 simp only [nodeOk, Bool.and_eq_true, decide_eq_true_eq] at h
 exact h.1.2
theorem set_node (l : List Slot) (i : Nat) (n : Node) : setElem (l.map slotc) i 0 (nodec n) = (l.modify i (setN n)).map slotc := set_cells slotc (setN n) l i 0 _ fun _ _ => rfl
theorem s73 (l : List Slot) (h : FewS l) (z : Int) (n : Node) (hn : n.path.length < 2 ^ 63) : g73 (l.map slotc) z n.id.core n.id.op n.id.part (idCells n.path) n.cap.kind n.cap.base n.cap.bits n.cap.rights n.cap.width n.cap.level n.cap.device = some ((putL l z n).map slotc, putErr l z n) := by
 have hl : l.length < 2 ^ 63 := by have := h.len; omega
 obtain ⟨r, hf⟩ := s134 l hl n.id.core n.id.op n.id.part
 rw [g73_eq, hf, Option.bind_some]
 refine ite_goal (fun h1 => ?_) fun h1 => ite_goal (fun h2 => ?_) fun h2 => ?_
 ·simp only [CQ] at h1
  have he : putErr l z n = 1 := by rw [putErr, if_pos (.inl h1)]
  rw [putL, he]; rfl
 ·simp only [CQ, List.length_map] at h2
  have he : putErr l z n = 1 := by rw [putErr, if_pos (.inr (.inl h2))]
  rw [putL, he]; rfl
 simp only [CQ, List.length_map] at h1 h2
 rw [s116 n hn, Option.bind_some]
 refine ite_goal (fun h3 => ?_) fun h3 => ite_goal (fun h4 => ?_) fun h4 => ?_
 ·have he : putErr l z n = 1 := by rw [putErr, if_pos (.inr (.inr (.inl (by simpa using h3))))]
  rw [putL, he]; rfl
 ·have he : putErr l z n = 1 := by rw [putErr, if_pos (.inr (.inr (.inr h4)))]
  rw [putL, he]; rfl
 ·simp only [Bool.not_eq_true', Bool.not_eq_false] at h3
  have hno : ¬ (z < 0 ∨ (l.length : Int) ≤ z ∨ nodeOk n = false ∨ l.any (hitS n.id) = true) := by
   rintro (h | h | h | h)
   ·omega
   ·omega
   ·rw [h3] at h; cases h
   ·exact h4 h
  have hz : z = ((z.toNat : Nat) : Int) := by omega
  have hlt : z.toNat < l.length := by omega
  refine (elem_slot_at (by omega) hlt _).trans ?_
  simp only [slotV, d2, d4, d8, d16]
  rw [s72, Option.bind_some]
  have hat : l[z.toNat]? = some l[z.toNat] := List.getElem?_eq_getElem hlt
  refine ite_goal (fun h5 => ?_) fun h5 => ?_
  ·have he : putErr l z n = 3 := by rw [putErr, if_neg hno, if_pos (by rw [hat]; exact h5)]
   rw [putL, he]; rfl
  ·have he : putErr l z n = 0 := by rw [putErr, if_neg hno, if_neg (by rw [hat]; exact h5)]
   have hp := nodeOk_path h3
   rw [putL, he, s38 l h, Option.bind_some, s64 n (by omega), Option.bind_some, List.length_map]
   refine (reqK_pos (by omega) _).trans ?_
   refine (reqK_pos (by omega) _).trans ?_
   refine (reqK_pos (by omega) _).trans ?_
   refine (reqK_pos (by omega) _).trans ?_
   rw [if_pos rfl]
   exact congrArg (fun x => some (x, (0 : Int))) (set_node l z.toNat n)
theorem s101 (l : List Slot) (h : FewS l) (z : Int) (n : Node) (hn : n.path.length < 2 ^ 63) : g101 (l.map slotc) z n.id.core n.id.op n.id.part (idCells n.path) n.cap.kind n.cap.base n.cap.bits n.cap.rights n.cap.width n.cap.level n.cap.device = some ((putL l z n).map slotc, putErr l z n) := by
 have hl : l.length < 2 ^ 63 := by have := h.len; omega
 obtain ⟨r, hf, hr⟩ := s23' l hl n.id
 rw [g101_eq]
 refine ite_goal (fun h1 => ?_) fun h1 => ite_goal (fun h2 => ?_) fun h2 => ?_
 ·simp only [CQ] at h1
  have he : putErr l z n = 1 := by rw [putErr, if_pos (.inl h1)]
  rw [putL, he]; rfl
 ·simp only [CQ, List.length_map] at h2
  have he : putErr l z n = 1 := by rw [putErr, if_pos (.inr (.inl h2))]
  rw [putL, he]; rfl
 simp only [CQ, List.length_map] at h1 h2
 rw [s87 n hn, Option.bind_some]
 refine ite_goal (fun h3 => ?_) fun h3 => ?_
 ·have he : putErr l z n = 1 := by rw [putErr, if_pos (.inr (.inr (.inl (by simpa using h3))))]
  rw [putL, he]; rfl
 rw [hf, Option.bind_some]
 refine ite_goal (fun h4 => ?_) fun h4 => ?_
 ·rw [hr] at h4
  have he : putErr l z n = 1 := by rw [putErr, if_pos (.inr (.inr (.inr h4)))]
  rw [putL, he]; rfl
 ·rw [hr] at h4
  simp only [Bool.not_eq_true', Bool.not_eq_false] at h3
  have hno : ¬ (z < 0 ∨ (l.length : Int) ≤ z ∨ nodeOk n = false ∨ l.any (hitS n.id) = true) := by
   rintro (h | h | h | h)
   ·omega
   ·omega
   ·rw [h3] at h; cases h
   ·exact h4 h
  have hz : z = ((z.toNat : Nat) : Int) := by omega
  have hlt : z.toNat < l.length := by omega
  refine (elem_slot_at (by omega) hlt _).trans ?_
  simp only [slotV, d2, d4, d8, d16]
  rw [s21, Option.bind_some]
  have hat : l[z.toNat]? = some l[z.toNat] := List.getElem?_eq_getElem hlt
  refine ite_goal (fun h5 => ?_) fun h5 => ?_
  ·have he : putErr l z n = 3 := by rw [putErr, if_neg hno, if_pos (by rw [hat]; exact h5)]
   rw [putL, he]; rfl
  ·have he : putErr l z n = 0 := by rw [putErr, if_neg hno, if_neg (by rw [hat]; exact h5)]
   have hp := nodeOk_path h3
   rw [putL, he, s16 l h, Option.bind_some, s30 n (by omega), Option.bind_some, List.length_map]
   refine (reqK_pos (by omega) _).trans ?_
   refine (reqK_pos (by omega) _).trans ?_
   refine (reqK_pos (by omega) _).trans ?_
   refine (reqK_pos (by omega) _).trans ?_
   rw [if_pos rfl]
   exact congrArg (fun x => some (x, (0 : Int))) (set_node l z.toNat n)
def offR (r : Int) (m : Mark) : Bool := decide (m.region ≠ r)
def unmk (r : Int) (l : List Mark) : List Mark := l.filter (offR r)
theorem s39 (l : List Mark) (h : l.length ≤ 1000) : g39 (l.map markc) = some (l.map markc) := by
 rw [g39_eq]
 refine nilK_of (fun hn => ?_) ?_
 ·rw [if_pos rfl, hn]
 ·rw [if_neg Bool.false_ne_true]
  refine reqK_pos (room_small (by simp; omega) (by omega)) _
theorem reg_dec (a b : Int) : cop .eql a b = decide (a = b) := by rw [bool_iff]; simp only [CQ]
theorem s59 (l : List Mark) (h : l.length ≤ 1000) (r : Int) : g59 (l.map markc) r = some ((unmk r l).map markc) := by
 rw [g59_eq]
 have hn : l.length < 2 ^ 63 := by omega
 have e : (unmk r l).map markc = l.flatMap (fun m => if offR r m = true then [markc m] else []) := by
  unfold unmk
  induction l with
  | nil => rfl
  | cons a l ih =>
   rw [List.flatMap_cons, List.filter_cons]
   by_cases ha : offR r a = true
   ·rw [if_pos ha, if_pos ha, List.map_cons, ih (by simp at h; omega) (by simp at hn; omega)]; rfl
   ·rw [if_neg ha, if_neg ha, ih (by simp at h; omega) (by simp at hn; omega)]; rfl
 rw [e]
 have hle : ∀ m : Mark, (if offR r m = true then [markc m] else []).length ≤ 1 := fun m => by split <;> simp
 refine collect (F := fun k acc i => g59L0 k (l.map markc) r acc i) l (fun m => if offR r m = true then [markc m] else []) hn (fun k i hi => ?_) (fun k acc i hi => ?_)
 ·show g59L0 (k + 1) _ _ _ _ = _
  rw [g59L0_eq, List.length_map, if_pos (lss_t hi)]
  refine (elem_marks hi _).trans ?_
  rw [inc_i hi hn]
  refine ite_goal (fun h1 => ?_) fun h1 => ?_
  ·simp only [CQ] at h1
   rw [if_pos (by simp [offR, h1])]
   refine (elem_marks hi _).trans ?_
   refine (reqK_pos (room_small ?_ (by omega)) _).trans rfl
   have := flat_le (fun m : Mark => if offR r m = true then [markc m] else []) (l.take i).length hle (l.take i) (Nat.le_refl _)
   simp only [List.length_take, List.length_append, List.length_cons, List.length_nil] at this ⊢
   omega
  ·simp only [CQ] at h1
   rw [if_neg (by simp [offR, h1]), List.append_nil]
 ·show g59L0 (k + 1) _ _ _ _ = _
  rw [g59L0_eq, List.length_map, if_neg (lss_f hi)]
def isR (r : Int) (m : Mark) : Bool := decide (m.region = r)
def atM (q : Mark → Bool) (p : List Mark) (i : Nat) : Bool := match p[i]? with | some x => q x | none => false
theorem atM_at (q : Mark → Bool) {p : List Mark} {i : Nat} (h : i < p.length) : atM q p i = q p[i] := by unfold atM; rw [List.getElem?_eq_getElem h]
theorem s135c75 (l : List Mark) (hn : l.length < 2 ^ 63) (r : Int) : g135c75 (l.map markc) r = some (hitZ l.length (fst' (isR r) l), r) := by
 rw [g135c75_eq, List.length_map]
 exact scan_stop (F := fun k z => g135c75L0 k (l.map markc) (l.length : Int) z r) (n := l.length) (fun m => (hitZ l.length m, r)) (atM (isR r) l) hn
  (fun k j hj => by
   show g135c75L0 (k + 1) _ _ _ _ = _
   rw [g135c75L0_eq, if_pos (lss_t hj)]
   refine (elem_marks hj _).trans ?_
   rw [g75_eq, Option.bind_some, inc_i hj hn, atM_at _ hj, hitZ_lt hj]
   dsimp only
   rw [reg_dec]
   rfl)
  (fun k => by
   show g135c75L0 (k + 1) _ _ _ _ = _
   rw [g135c75L0_eq, if_neg (lss_f (Nat.le_refl _)), hitZ, if_neg (Nat.lt_irrefl _)]) (fst' (isR r) l) (fst_le _ l) (fun j hj => by
    have hl := fst_le (isR r) l
    rw [atM_at _ (by omega)]; exact fst_lt _ l j (by omega) hj) (fun h => by rw [atM_at _ h]; exact fst_at _ l h)
theorem off_is (r : Int) (m : Mark) : offR r m = !isR r m := by simp [offR, isR]
theorem set_mark (arr : List Mark) (w : Nat) (y : Mark) : setElem (arr.map markc) w 0 [I y.region, I y.op.core, I y.op.op, I y.op.part] = (arr.modify w fun _ => y).map markc := set_cells markc (fun _ => y) arr w 0 _ fun _ _ => rfl
theorem mod_ne {α : Type} (arr : List α) (w k : Nat) (f : α → α) (h : w ≠ k) : (arr.modify w f)[k]? = arr[k]? := by
 rw [List.getElem?_modify]
 cases arr[k]? <;> simp [h]
theorem take_mod {α : Type} (arr : List α) (w : Nat) (y : α) (h : w < arr.length) : (arr.modify w fun _ => y).take (w + 1) = arr.take w ++ [y] := by
 refine List.ext_getElem? fun k => ?_
 rw [List.getElem?_take]
 by_cases hk : k < w
 ·rw [if_pos (by omega), List.getElem?_append_left (by simp; omega), List.getElem?_take, if_pos hk, mod_ne _ _ _ _ (by omega)]
 ·by_cases hk2 : k = w
  ·subst hk2
   rw [if_pos (by omega), List.getElem?_append_right (by rw [List.length_take]; omega), List.getElem?_modify, List.getElem?_eq_getElem h]
   have : k - (arr.take k).length = 0 := by simp; omega
   rw [this]; simp
  ·rw [if_neg (by omega), List.getElem?_eq_none (by simp; omega)]
theorem l74 (l : List Mark) (r : Int) (hn : l.length < 2 ^ 62) : ∀ (d j fuel : Nat) (arr : List Mark), j + d = l.length → d < fuel → arr.length = l.length → (∀ k, j ≤ k → arr[k]? = l[k]?) →
  ((l.take j).filter (offR r)).length < j → arr.take ((l.take j).filter (offR r)).length = (l.take j).filter (offR r) →
  g74c75L0 fuel (arr.map markc) (((l.take j).filter (offR r)).length : Int) (j : Int) r = some ((unmk r l).map markc, r) := by
 intro d
 induction d with
 | zero =>
  intro j fuel arr h hf ha hk hw ht
  obtain ⟨q, rfl⟩ : ∃ q, fuel = q + 1 := ⟨fuel - 1, by omega⟩
  have hj : j = l.length := by omega
  subst hj
  rw [List.take_length] at hw ht
  rw [g74c75L0_eq, List.length_map, ha, if_neg (lss_f (Nat.le_refl _)), List.take_length]
  refine (reqK_pos (by omega) _).trans ?_
  refine (reqK_pos (by omega) _).trans ?_
  refine (reqK_pos (by omega) _).trans ?_
  have hsub : iop .sub .i64 (l.length : Int) ((l.filter (offR r)).length : Int) = (l.length : Int) - (l.filter (offR r)).length := by rw [sub_i (by omega) (by omega)]
  refine (reqK_pos (by simp only [List.length_append, List.length_take, List.length_map, List.length_replicate, Int.toNat_natCast]; omega) _).trans ?_
  rw [Int.toNat_natCast, List.take_append_of_le_length (by simp; omega), List.take_take, Nat.min_self, ← List.map_take, ht]
  rfl
 | succ d ih =>
  intro j fuel arr h hf ha hk hw ht
  obtain ⟨q, rfl⟩ : ∃ q, fuel = q + 1 := ⟨fuel - 1, by omega⟩
  have hj : j < l.length := by omega
  have hja : j < arr.length := by omega
  have haj : arr[j] = l[j] := by
   have := hk j (Nat.le_refl _)
   rw [List.getElem?_eq_getElem hja, List.getElem?_eq_getElem hj] at this
   exact Option.some.inj this
  have hft : (l.take (j + 1)).filter (offR r) = (l.take j).filter (offR r) ++ (if offR r l[j] = true then [l[j]] else []) := by
   rw [List.take_add_one, List.getElem?_eq_getElem hj, Option.toList_some, List.filter_append]
   by_cases hh : offR r l[j] = true
   ·simp [hh]
   ·simp [hh]
  rw [g74c75L0_eq, List.length_map, ha, if_pos (lss_t hj)]
  refine (reqK_pos (by omega) _).trans ?_
  refine (reqK_pos (by omega) _).trans ?_
  refine (elem_marks hja _).trans ?_
  rw [haj, g75_eq, Option.bind_some]
  dsimp only
  rw [inc_i hj (by omega), reg_dec]
  generalize hwd : ((l.take j).filter (offR r)).length = w at *
  refine ite_goal (fun h1 => ?_) fun h1 => ?_
  ·have hoff : offR r l[j] = true := by simpa [offR] using h1
   rw [if_pos hoff] at hft
   refine (reqK_pos (by omega) _).trans ?_
   refine (reqK_pos (by omega) _).trans ?_
   refine (reqK_pos (by omega) _).trans ?_
   refine (reqK_pos (by omega) _).trans ?_
   rw [Int.toNat_natCast, set_mark, inc_i (show w < l.length by omega) (by omega)]
   have hwl : ((l.take (j + 1)).filter (offR r)).length = w + 1 := by rw [hft, List.length_append, hwd]; rfl
   have := ih (j + 1) q (arr.modify w fun _ => l[j]) (by omega) (by omega) (by rw [List.length_modify]; exact ha) (fun k hkk => by rw [mod_ne _ _ _ _ (by omega)]; exact hk k (by omega)) (by rw [hwl]; omega)
    (by rw [hwl, take_mod _ _ _ (by omega), ht, hft])
   rw [hwl] at this
   exact this
  ·have hoff : ¬ offR r l[j] = true := by simpa [offR] using h1
   rw [if_neg hoff, List.append_nil] at hft
   have := ih (j + 1) q arr (by omega) (by omega) ha (fun k hkk => hk k (by omega)) (by rw [hft, hwd]; omega) (by rw [hft, hwd]; exact ht)
   rw [hft, hwd] at this
   exact this
theorem filt_none {α : Type} (q : α → Bool) : ∀ (l : List α) (j : Nat), (∀ (k : Nat) (hk : k < l.length), k < j → q l[k] = true) → (l.take j).filter q = l.take j := by
 intro l j h
 rw [List.filter_eq_self]
 intro x hx
 obtain ⟨k, hk, rfl⟩ := List.getElem_of_mem hx
 rw [List.getElem_take]
 simp at hk
 exact h k (by omega) (by omega)
theorem s42 (l : List Mark) (hn : l.length < 2 ^ 62) (r : Int) : g42 (l.map markc) r = some ((unmk r l).map markc) := by
 rw [g42_eq, g74c75_eq, s135c75 l (by omega) r, Option.bind_some]
 dsimp only
 have hle := fst_le (isR r) l
 have hno : ∀ (k : Nat) (hk : k < l.length), k < fst' (isR r) l → offR r l[k] = true := fun k hk h => by rw [off_is, fst_lt _ l k hk h]; rfl
 by_cases hlt : fst' (isR r) l < l.length
 ·rw [hitZ_lt hlt, if_neg (by simp only [CQ]; omega), inc_i hlt (by omega)]
  have hft0 := filt_none (offR r) l (fst' (isR r) l) hno
  have hat := fst_at (isR r) l hlt
  have hft : (l.take (fst' (isR r) l + 1)).filter (offR r) = l.take (fst' (isR r) l) := by
   rw [List.take_add_one, List.getElem?_eq_getElem hlt, Option.toList_some, List.filter_append, hft0]
   simp [off_is, hat]
  have hl1 : (l.take (fst' (isR r) l)).length = fst' (isR r) l := by rw [List.length_take]; omega
  have := l74 l r hn (l.length - (fst' (isR r) l + 1)) (fst' (isR r) l + 1) FUEL l (by omega) (by have := fuel63 (n := l.length) (by omega); omega) rfl (fun _ _ => rfl) (by rw [hft, hl1]; omega) (by rw [hft, hl1])
  rw [hft, hl1] at this
  rw [this]; rfl
 ·have he : fst' (isR r) l = l.length := by omega
  rw [hitZ, if_neg hlt, if_pos (by rfl)]
  have := filt_none (offR r) l l.length fun k hk _ => hno k hk (by omega)
  rw [List.take_length] at this
  unfold unmk
  rw [this]; rfl
def geR (r : Int) (m : Mark) : Bool := !decide (m.region < r)
def mkM (r : Int) (op : Id) (l : List Mark) : List Mark := (unmk r l).take (fst' (geR r) (unmk r l)) ++ [⟨r, op⟩] ++ (unmk r l).drop (fst' (geR r) (unmk r l))
theorem unmk_len (r : Int) (l : List Mark) : (unmk r l).length ≤ l.length := List.length_filter_le _ _
theorem take_marks (p : List Mark) (i : Nat) : List.take (Int.toNat (i : Int)) (p.map markc) = (p.take i).map markc := by rw [Int.toNat_natCast]; exact (List.map_take ..).symm
theorem drop_marks (p : List Mark) (i : Nat) : List.drop (Int.toNat (i : Int)) (p.map markc) = (p.drop i).map markc := by rw [Int.toNat_natCast]; exact (List.map_drop ..).symm
theorem ins_mark (p : List Mark) (r : Int) (op : Id) (i : Nat) (hi : i ≤ p.length) (h : p.length ≤ 1000) : g77 (p.map markc) (i : Int) (([] : LL) ++ [[I r, I op.core, I op.op, I op.part]]) = some ((p.take i ++ [(⟨r, op⟩ : Mark)] ++ p.drop i).map markc) := by
 rw [g77_eq, gIns]
 refine (reqK_pos (by omega) _).trans ?_
 refine (reqK_pos (by rw [List.length_map]; omega) _).trans ?_
 refine (reqK_pos (by simp) _).trans ?_
 refine (reqK_pos (room_small (by simp; omega) (by omega)) _).trans ?_
 rw [take_marks, drop_marks, List.map_append, List.map_append]
 rfl
theorem s44 (l : List Mark) (h : l.length ≤ 1000) (r : Int) (op : Id) : g44 (l.map markc) r op.core op.op op.part = some ((mkM r op l).map markc) := by
 rw [g44_eq, s42 l (by omega), Option.bind_some]
 have hl := unmk_len r l
 have hn : (unmk r l).length < 2 ^ 63 := by omega
 refine scan_stop (F := fun k z => g44L0 k ((unmk r l).map markc) r op.core op.op op.part z) (n := (unmk r l).length) (fun i => ((unmk r l).take i ++ [(⟨r, op⟩ : Mark)] ++ (unmk r l).drop i).map markc) (atM (geR r) (unmk r l)) hn
  (fun k j hj => ?_) (fun k => ?_) (fst' (geR r) (unmk r l)) (fst_le _ _) (fun j hj => by
    have hl := fst_le (geR r) (unmk r l)
    rw [atM_at _ (by omega)]; exact fst_lt _ _ j (by omega) hj) (fun h => by rw [atM_at _ h]; exact fst_at _ _ h)
 ·show g44L0 (k + 1) _ _ _ _ _ _ = _
  rw [g44L0_eq, List.length_map, if_pos (lss_t hj)]
  refine (reqK_pos (by omega) _).trans ?_
  refine (reqK_pos (by omega) _).trans ?_
  refine (elem_marks hj _).trans ?_
  rw [inc_i hj hn, atM_at _ hj, ins_mark _ r op j (by omega) (by omega)]
  refine ite_goal (fun h1 => ?_) fun h1 => ?_
  ·simp only [CQ] at h1
   rw [if_neg (by simp [geR, h1])]
  ·simp only [CQ] at h1
   rw [if_pos (by simp [geR]; omega)]; rfl
 ·show g44L0 (k + 1) _ _ _ _ _ _ = _
  rw [g44L0_eq, List.length_map, if_neg (lss_f (Nat.le_refl _)), ins_mark _ r op _ (Nat.le_refl _) (by omega)]; rfl
theorem s60 (l : List Mark) (h : l.length ≤ 1000) (r : Int) (op : Id) : g60 (l.map markc) r op.core op.op op.part = some ((mkM r op l).map markc) := by
 rw [g60_eq, s59 l h, Option.bind_some]
 have hl := unmk_len r l
 have hn : (unmk r l).length < 2 ^ 63 := by omega
 have hr0 : ∀ i : Nat, i ≤ (unmk r l).length → roomP ([] : LL) (((unmk r l).take i).map markc) 32 := fun i hi => room_small (by simp; omega) (by omega)
 have hr1 : ∀ i : Nat, i ≤ (unmk r l).length → roomP (((unmk r l).take i).map markc) (([] : LL) ++ [[I r, I op.core, I op.op, I op.part]]) 32 := fun i hi => room_small (by simp; omega) (by omega)
 have hr2 : ∀ i : Nat, i ≤ (unmk r l).length → roomP ((((unmk r l).take i).map markc) ++ (([] : LL) ++ [[I r, I op.core, I op.op, I op.part]])) (((unmk r l).drop i).map markc) 32 := fun i hi => room_small (by simp; omega) (by omega)
 have hres : ∀ i : Nat, ((((unmk r l).take i).map markc) ++ (([] : LL) ++ [[I r, I op.core, I op.op, I op.part]])) ++ (((unmk r l).drop i).map markc) = ((unmk r l).take i ++ [(⟨r, op⟩ : Mark)] ++ (unmk r l).drop i).map markc := fun i => by
  rw [List.map_append, List.map_append]; rfl
 refine scan_stop (F := fun k z => g60L0 k ((unmk r l).map markc) r op.core op.op op.part z) (n := (unmk r l).length) (fun i => ((unmk r l).take i ++ [(⟨r, op⟩ : Mark)] ++ (unmk r l).drop i).map markc) (atM (geR r) (unmk r l)) hn
  (fun k j hj => ?_) (fun k => ?_) (fst' (geR r) (unmk r l)) (fst_le _ _) (fun j hj => by
    have hl := fst_le (geR r) (unmk r l)
    rw [atM_at _ (by omega)]; exact fst_lt _ _ j (by omega) hj) (fun h => by rw [atM_at _ h]; exact fst_at _ _ h)
 ·show g60L0 (k + 1) _ _ _ _ _ _ = _
  rw [g60L0_eq, List.length_map, if_pos (lss_t hj)]
  refine (elem_marks hj _).trans ?_
  rw [inc_i hj hn, atM_at _ hj]
  refine ite_goal (fun h1 => ?_) fun h1 => ?_
  ·simp only [CQ] at h1
   rw [if_neg (by simp [geR, h1])]
  ·simp only [CQ] at h1
   rw [if_pos (by simp [geR]; omega), take_marks, drop_marks]
   refine (reqK_pos (by omega) _).trans ?_
   refine (reqK_pos (by omega) _).trans ?_
   refine (reqK_pos (hr0 j (by omega)) _).trans ?_
   refine (reqK_pos (hr1 j (by omega)) _).trans ?_
   refine (reqK_pos (by omega) _).trans ?_
   refine (reqK_pos (by omega) _).trans ?_
   refine (reqK_pos (hr2 j (by omega)) _).trans ?_
   rw [hres]
 ·show g60L0 (k + 1) _ _ _ _ _ _ = _
  rw [g60L0_eq, List.length_map, if_neg (lss_f (Nat.le_refl _)), take_marks, drop_marks]
  refine (reqK_pos (by omega) _).trans ?_
  refine (reqK_pos (by omega) _).trans ?_
  refine (reqK_pos (hr0 _ (by omega)) _).trans ?_
  refine (reqK_pos (hr1 _ (by omega)) _).trans ?_
  refine (reqK_pos (by omega) _).trans ?_
  refine (reqK_pos (by omega) _).trans ?_
  refine (reqK_pos (hr2 _ (by omega)) _).trans ?_
  rw [hres]
end Go.Proofs.YtljejgmcgddppaaGreat
end

section
namespace Go.Proofs.YtljejgmcgddppaaGreat
open Go Go.AM
set_option linter.unusedSimpArgs false
set_option linter.unusedVariables false
set_option maxRecDepth 100000
def rep (k e : Int) (m : Msg) : Msg := ⟨k, 0, 0, m.frm, 0, m.region, 0, m.op, e, false, noReq, [], [], [], [], 0, noView, noState, noReport⟩
def comc (c : Id × Bool) : List AV := [I c.1.core, I c.1.op, I c.1.part, B c.2]
def node1 (m : Msg) : Node := m.nodes.headD noNode
def inst (l : List Slot) (m : Msg) : Int :=
 if (l.length : Int) ≤ m.slot then 1 else match l[m.slot.toNat]? with
  | some s => if busyS s = true then 4 else if emptyS s = false then 3 else if putErr l m.slot (node1 m) ≠ 0 then 1 else 0
  | none => 1
def instL (l : List Slot) (m : Msg) : List Slot := if inst l m = 0 then putL l m.slot (node1 m) else l
theorem put_ne3 {l : List Slot} {z : Int} {n : Node} (hz : z.toNat < l.length) (he : emptyS (l[z.toNat]) = true) : putErr l z n = 1 ∨ putErr l z n = 0 := by
 unfold putErr
 split
 ·exact .inl rfl
 ·rw [if_neg (by rw [List.getElem?_eq_getElem hz]; simp [he])]
  exact .inr rfl
theorem s41 (l : List Slot) (h : FewS l) (m : Msg) (n : Node) (hm : m.nodes = [n]) (hs : 0 ≤ m.slot) (hn : n.path.length < 2 ^ 63) : g41 (l.map slotc) m.kind m.view m.frm m.to m.round m.region m.slot m.op.core m.op.op m.op.part m.err m.settled m.req.id.core m.req.id.op m.req.id.part m.req.call.kind m.req.call.slot m.req.call.dest m.req.call.core m.req.call.mask m.req.call.object m.req.call.bits m.req.call.level m.req.call.offset m.req.call.count m.req.call.index m.req.call.addr m.req.region m.req.width m.req.src.id.core m.req.src.id.op m.req.src.id.part (idCells m.req.src.path) m.req.src.cap.kind m.req.src.cap.base m.req.src.cap.bits m.req.src.cap.rights m.req.src.cap.width m.req.src.cap.level m.req.src.cap.device (idCells m.ids) (m.nodes.map nodec) (intCells m.cores) (m.moves.map movec) m.base m.next.number (intCells m.next.members) (intCells m.next.owners) (m.state.slots.map slotc) (m.state.pending.map reqc) (m.state.marks.map markc) (m.state.answers.map ansc) (m.state.entries.map entryc) (idCells m.state.commits) m.report.core m.report.view.number (intCells m.report.view.members) (intCells m.report.view.owners) (m.report.state.slots.map slotc) (m.report.state.pending.map reqc) (m.report.state.marks.map markc) (m.report.state.answers.map ansc) (m.report.state.entries.map entryc) (idCells m.report.state.commits) m.report.ready m.report.next.number (intCells m.report.next.members) (intCells m.report.next.owners) (m.report.proposal.slots.map slotc) (m.report.proposal.pending.map reqc) (m.report.proposal.marks.map markc) (m.report.proposal.answers.map ansc) (m.report.proposal.entries.map entryc) (idCells m.report.proposal.commits) = some ((instL l m).map slotc, inst l m) := by
 have h1n : node1 m = n := by rw [node1, hm]; rfl
 rw [g41_eq]
 have hi : (0 : Nat) < m.nodes.length := by rw [hm]; exact Nat.zero_lt_one
 refine (elem_nodes hi _).trans ?_
 have hg : m.nodes[0] = n := by simp [hm]
 rw [hg]
 simp only [nodeV, d2, d4, d8, d16]
 refine ite_goal (fun h1 => ?_) fun h1 => ?_
 ·simp only [CQ, List.length_map] at h1
  have he : inst l m = 1 := if_pos h1
  rw [instL, he]; rfl
 simp only [CQ, List.length_map] at h1
 have hlt : m.slot.toNat < l.length := by omega
 have hat : l[m.slot.toNat]? = some l[m.slot.toNat] := List.getElem?_eq_getElem hlt
 have hinst : inst l m = if busyS l[m.slot.toNat] = true then 4 else if emptyS l[m.slot.toNat] = false then 3 else if putErr l m.slot n ≠ 0 then 1 else 0 := by
  rw [inst, if_neg h1, hat, h1n]
 refine (elem_slot_at hs hlt _).trans ?_
 simp only [slotV, d2, d4, d8, d16]
 rw [s71, Option.bind_some]
 refine ite_goal (fun h2 => ?_) fun h2 => ?_
 ·have he : inst l m = 4 := by rw [hinst, if_pos h2]
  rw [instL, he]; rfl
 refine (elem_slot_at hs hlt _).trans ?_
 simp only [slotV, d2, d4, d8, d16]
 rw [s72, Option.bind_some]
 refine ite_goal (fun h3 => ?_) fun h3 => ?_
 ·have he : inst l m = 3 := by rw [hinst, if_neg h2, if_pos (by simpa using h3)]
  rw [instL, he]; rfl
 have h3' : emptyS l[m.slot.toNat] = true := by simpa using h3
 rw [s73 l h m.slot n hn, Option.bind_some]
 refine ite_goal (fun h4 => ?_) fun h4 => ?_
 ·simp only [CQ] at h4
  have h4' : putErr l m.slot n ≠ 0 := h4
  have he : inst l m = 1 := by rw [hinst, if_neg h2, if_neg (by simp [h3']), if_pos h4']
  rw [instL, he]; rfl
 ·simp only [CQ] at h4
  have h4' : ¬ putErr l m.slot n ≠ 0 := h4
  have he : inst l m = 0 := by rw [hinst, if_neg h2, if_neg (by simp [h3']), if_neg h4']
  rw [instL, he, if_pos rfl, h1n]
theorem s57 (l : List Slot) (h : FewS l) (m : Msg) (n : Node) (hm : m.nodes = [n]) (hs : 0 ≤ m.slot) (hn : n.path.length < 2 ^ 63) : ∃ r, g57 (l.map slotc) m.kind m.view m.frm m.to m.round m.region m.slot m.op.core m.op.op m.op.part m.err m.settled m.req.id.core m.req.id.op m.req.id.part m.req.call.kind m.req.call.slot m.req.call.dest m.req.call.core m.req.call.mask m.req.call.object m.req.call.bits m.req.call.level m.req.call.offset m.req.call.count m.req.call.index m.req.call.addr m.req.region m.req.width m.req.src.id.core m.req.src.id.op m.req.src.id.part (idCells m.req.src.path) m.req.src.cap.kind m.req.src.cap.base m.req.src.cap.bits m.req.src.cap.rights m.req.src.cap.width m.req.src.cap.level m.req.src.cap.device (idCells m.ids) (m.nodes.map nodec) (intCells m.cores) (m.moves.map movec) m.base m.next.number (intCells m.next.members) (intCells m.next.owners) (m.state.slots.map slotc) (m.state.pending.map reqc) (m.state.marks.map markc) (m.state.answers.map ansc) (m.state.entries.map entryc) (idCells m.state.commits) m.report.core m.report.view.number (intCells m.report.view.members) (intCells m.report.view.owners) (m.report.state.slots.map slotc) (m.report.state.pending.map reqc) (m.report.state.marks.map markc) (m.report.state.answers.map ansc) (m.report.state.entries.map entryc) (idCells m.report.state.commits) m.report.ready m.report.next.number (intCells m.report.next.members) (intCells m.report.next.owners) (m.report.proposal.slots.map slotc) (m.report.proposal.pending.map reqc) (m.report.proposal.marks.map markc) (m.report.proposal.answers.map ansc) (m.report.proposal.entries.map entryc) (idCells m.report.proposal.commits) = some (r.map slotc, inst l m) ∧ (inst l m = 0 → r = instL l m) := by
 have h1n : node1 m = n := by rw [node1, hm]; rfl
 rw [g57_eq]
 by_cases h1 : (l.length : Int) ≤ m.slot
 ·have he : inst l m = 1 := if_pos h1
  rw [if_pos (by simp only [CQ, List.length_map]; exact h1)]
  exact ⟨[], by rw [he]; rfl, fun h0 => by rw [he] at h0; cases h0⟩
 rw [if_neg (by simp only [CQ, List.length_map]; exact h1)]
 have hlt : m.slot.toNat < l.length := by omega
 have hat : l[m.slot.toNat]? = some l[m.slot.toNat] := List.getElem?_eq_getElem hlt
 have hinst : inst l m = if busyS l[m.slot.toNat] = true then 4 else if emptyS l[m.slot.toNat] = false then 3 else if putErr l m.slot n ≠ 0 then 1 else 0 := by
  rw [inst, if_neg h1, hat, h1n]
 have key : ∀ r : List Slot, (∀ x : Option (LL × Int), x = some (r.map slotc, inst l m) → (inst l m = 0 → r = instL l m) → ∃ r, x = some (r.map slotc, inst l m) ∧ (inst l m = 0 → r = instL l m)) := fun r x h1 h2 => ⟨r, h1, h2⟩
 by_cases h2 : busyS l[m.slot.toNat] = true
 ·have he : inst l m = 4 := by rw [hinst, if_pos h2]
  refine key [] _ ?_ (fun h0 => by rw [he] at h0; cases h0)
  refine (elem_slot_at hs hlt _).trans ?_
  simp only [slotV, d2, d4, d8, d16]
  rw [s20, Option.bind_some, if_pos h2, he]; rfl
 by_cases h3 : emptyS l[m.slot.toNat] = true
 ·have hp := put_ne3 (n := n) hlt h3
  have he : inst l m = putErr l m.slot n := by
   rw [hinst, if_neg h2, if_neg (by simp [h3])]
   rcases hp with hp | hp <;> rw [hp] <;> rfl
  refine key (putL l m.slot n) _ ?_ (fun h0 => by rw [instL, if_pos h0, h1n])
  refine (elem_slot_at hs hlt _).trans ?_
  simp only [slotV, d2, d4, d8, d16]
  rw [s20, Option.bind_some, if_neg h2]
  refine (elem_slot_at hs hlt _).trans ?_
  simp only [slotV, d2, d4, d8, d16]
  rw [s21, Option.bind_some, if_neg (by simp [h3])]
  have hi : (0 : Nat) < m.nodes.length := by rw [hm]; exact Nat.zero_lt_one
  refine (elem_nodes hi _).trans ?_
  have hg : m.nodes[0] = n := by simp [hm]
  rw [hg]
  simp only [nodeV, d2, d4, d8, d16]
  rw [s101 l h m.slot n hn, Option.bind_some, he]
 ·have h3' : emptyS l[m.slot.toNat] = false := by simpa using h3
  have he : inst l m = 3 := by rw [hinst, if_neg h2, if_pos h3']
  refine key [] _ ?_ (fun h0 => by rw [he] at h0; cases h0)
  refine (elem_slot_at hs hlt _).trans ?_
  simp only [slotV, d2, d4, d8, d16]
  rw [s20, Option.bind_some, if_neg h2]
  refine (elem_slot_at hs hlt _).trans ?_
  simp only [slotV, d2, d4, d8, d16]
  rw [s21, Option.bind_some, if_pos (by simp [h3']), he]; rfl
structure HoldR where
 slots : List Slot
 marks : List Mark
 msgs : List Msg
 coms : List (Id × Bool)
def holdc (r : HoldR) : LL × LL × LL × LL := (r.slots.map slotc, r.marks.map markc, r.msgs.map msgc, r.coms.map comc)
def instC (l : List Slot) (m : Msg) : List (Id × Bool) := if inst l m = 0 then [(m.op, true)] else if inst l m = 3 then [(m.op, false)] else []
def hold (core : Int) (l : List Slot) (mk : List Mark) (m : Msg) : HoldR :=
 if validB m = false ∨ m.to ≠ core then ⟨l, mk, [], []⟩
 else if m.kind = 4 then ⟨instL l m, mk, [rep 5 (inst l m) m], instC l m⟩
 else if m.kind = 6 then ⟨l.map (lockS m.ids m.op), unmk m.region mk, [rep 7 0 m], []⟩
 else if m.kind = 8 then ⟨l, mkM m.region m.op mk, [rep 9 0 m], []⟩
 else if m.kind = 10 then ⟨sweepL m.op l, mk, [rep 11 0 m], []⟩
 else ⟨l, mk, [], []⟩
theorem inst_fields {m : Msg} (hv : validB m = true) (hk : m.kind = 4) : ∃ n, m.nodes = [n] ∧ 0 ≤ m.slot ∧ nodeOk n = true := by
 simp only [validB, Bool.and_eq_true] at hv
 obtain ⟨_, hf, _⟩ := hv
 have e : m.kind.toNat = 4 := by rw [hk]; rfl
 rw [e] at hf
 simp only [kf, List.all_cons, List.all_nil, Bool.and_true, Bool.and_eq_true, fieldOk, decide_eq_true_eq, Bool.or_eq_true, slotOk] at hf
 obtain ⟨_, _, hs, ⟨hl, h1⟩, hn⟩ := hf
 have hl1 : m.nodes.length = 1 := by
  rcases h1 with h1 | h1
  ·exact (h1 hk).elim
  ·exact h1
 match hmn : m.nodes, hl1 with
 | [n], _ =>
  rw [hmn] at hn
  simp at hn
  exact ⟨n, rfl, by omega, hn⟩
theorem s15 (core : Int) (l : List Slot) (h : FewS l) (mk : List Mark) (hk : mk.length ≤ 1000) (m : Msg) (hm : m.Fits) : g15 core (l.map slotc) (mk.map markc) m.kind m.view m.frm m.to m.round m.region m.slot m.op.core m.op.op m.op.part m.err m.settled m.req.id.core m.req.id.op m.req.id.part m.req.call.kind m.req.call.slot m.req.call.dest m.req.call.core m.req.call.mask m.req.call.object m.req.call.bits m.req.call.level m.req.call.offset m.req.call.count m.req.call.index m.req.call.addr m.req.region m.req.width m.req.src.id.core m.req.src.id.op m.req.src.id.part (idCells m.req.src.path) m.req.src.cap.kind m.req.src.cap.base m.req.src.cap.bits m.req.src.cap.rights m.req.src.cap.width m.req.src.cap.level m.req.src.cap.device (idCells m.ids) (m.nodes.map nodec) (intCells m.cores) (m.moves.map movec) m.base m.next.number (intCells m.next.members) (intCells m.next.owners) (m.state.slots.map slotc) (m.state.pending.map reqc) (m.state.marks.map markc) (m.state.answers.map ansc) (m.state.entries.map entryc) (idCells m.state.commits) m.report.core m.report.view.number (intCells m.report.view.members) (intCells m.report.view.owners) (m.report.state.slots.map slotc) (m.report.state.pending.map reqc) (m.report.state.marks.map markc) (m.report.state.answers.map ansc) (m.report.state.entries.map entryc) (idCells m.report.state.commits) m.report.ready m.report.next.number (intCells m.report.next.members) (intCells m.report.next.owners) (m.report.proposal.slots.map slotc) (m.report.proposal.pending.map reqc) (m.report.proposal.marks.map markc) (m.report.proposal.answers.map ansc) (m.report.proposal.entries.map entryc) (idCells m.report.proposal.commits) = some (holdc (hold core l mk m)) := by
 rw [g15_eq, s38 l h, Option.bind_some, s39 mk hk, Option.bind_some, s40 m hm, Option.bind_some]
 refine ite_goal (fun h1 => ?_) fun h1 => ite_goal (fun h2 => ?_) fun h2 => ?_
 ·rw [hold, if_pos (.inl (by simpa using h1))]; rfl
 ·simp only [CQ] at h2
  rw [hold, if_pos (.inr h2)]; rfl
 simp only [CQ] at h2
 have hv : validB m = true := by simpa using h1
 have hno : ¬ (validB m = false ∨ m.to ≠ core) := fun h => h.elim (fun h => by rw [hv] at h; cases h) h2
 rw [hold, if_neg hno]
 refine ite_goal (fun h4 => ?_) fun h4 => ?_
 ·simp only [CQ] at h4
  obtain ⟨n, hmn, hs, hok⟩ := inst_fields hv h4
  have hp := nodeOk_path hok
  rw [if_pos h4, s41 l h m n hmn hs (by omega), Option.bind_some, instC]
  refine ite_goal (fun h5 => ?_) fun h5 => ?_
  ·simp only [CQ] at h5
   have h5' : inst l m = 0 := h5
   rw [if_pos h5', h5']; rfl
  simp only [CQ] at h5
  have h5' : ¬ inst l m = 0 := h5
  refine ite_goal (fun h6 => ?_) fun h6 => ?_
  ·simp only [CQ] at h6
   have h6' : inst l m = 3 := h6
   rw [if_neg h5', if_pos h6', h6']; rfl
  ·simp only [CQ] at h6
   have h6' : ¬ inst l m = 3 := h6
   rw [if_neg h5', if_neg h6']; rfl
 simp only [CQ] at h4
 rw [if_neg h4]
 refine ite_goal (fun h6 => ?_) fun h6 => ?_
 ·simp only [CQ] at h6
  rw [if_pos h6, s42 mk (by omega), Option.bind_some, s43 l h m.ids hm.ids m.op, Option.bind_some]; rfl
 simp only [CQ] at h6
 rw [if_neg h6]
 refine ite_goal (fun h8 => ?_) fun h8 => ?_
 ·simp only [CQ] at h8
  rw [if_pos h8, s44 mk hk, Option.bind_some]; rfl
 simp only [CQ] at h8
 rw [if_neg h8]
 refine ite_goal (fun h10 => ?_) fun h10 => ?_
 ·simp only [CQ] at h10
  rw [if_pos h10, s45 l h m.op, Option.bind_some]; rfl
 ·simp only [CQ] at h10
  rw [if_neg h10]; rfl
theorem s35 (core : Int) (l : List Slot) (h : FewS l) (mk : List Mark) (hk : mk.length ≤ 1000) (m : Msg) (hm : m.Fits) : g35 core (l.map slotc) (mk.map markc) m.kind m.view m.frm m.to m.round m.region m.slot m.op.core m.op.op m.op.part m.err m.settled m.req.id.core m.req.id.op m.req.id.part m.req.call.kind m.req.call.slot m.req.call.dest m.req.call.core m.req.call.mask m.req.call.object m.req.call.bits m.req.call.level m.req.call.offset m.req.call.count m.req.call.index m.req.call.addr m.req.region m.req.width m.req.src.id.core m.req.src.id.op m.req.src.id.part (idCells m.req.src.path) m.req.src.cap.kind m.req.src.cap.base m.req.src.cap.bits m.req.src.cap.rights m.req.src.cap.width m.req.src.cap.level m.req.src.cap.device (idCells m.ids) (m.nodes.map nodec) (intCells m.cores) (m.moves.map movec) m.base m.next.number (intCells m.next.members) (intCells m.next.owners) (m.state.slots.map slotc) (m.state.pending.map reqc) (m.state.marks.map markc) (m.state.answers.map ansc) (m.state.entries.map entryc) (idCells m.state.commits) m.report.core m.report.view.number (intCells m.report.view.members) (intCells m.report.view.owners) (m.report.state.slots.map slotc) (m.report.state.pending.map reqc) (m.report.state.marks.map markc) (m.report.state.answers.map ansc) (m.report.state.entries.map entryc) (idCells m.report.state.commits) m.report.ready m.report.next.number (intCells m.report.next.members) (intCells m.report.next.owners) (m.report.proposal.slots.map slotc) (m.report.proposal.pending.map reqc) (m.report.proposal.marks.map markc) (m.report.proposal.answers.map ansc) (m.report.proposal.entries.map entryc) (idCells m.report.proposal.commits) = some (holdc (hold core l mk m)) := by
 rw [g35_eq, s56 m hm, Option.bind_some]
 refine ite_goal (fun h1 => ?_) fun h1 => ite_goal (fun h2 => ?_) fun h2 => ?_
 ·rw [hold, if_pos (.inl (by simpa using h1))]; rfl
 ·simp only [CQ] at h2
  rw [hold, if_pos (.inr h2)]; rfl
 simp only [CQ] at h2
 have hv : validB m = true := by simpa using h1
 have hno : ¬ (validB m = false ∨ m.to ≠ core) := fun h => h.elim (fun h => by rw [hv] at h; cases h) h2
 rw [hold, if_neg hno]
 refine ite_goal (fun h4 => ?_) fun h4 => ?_
 ·simp only [CQ] at h4
  obtain ⟨n, hmn, hs, hok⟩ := inst_fields hv h4
  have hp := nodeOk_path hok
  obtain ⟨r, hr, hr0⟩ := s57 l h m n hmn hs (by omega)
  rw [if_pos h4, hr, Option.bind_some, instC]
  refine ite_goal (fun h5 => ?_) fun h5 => ?_
  ·simp only [CQ] at h5
   have h5' : inst l m = 0 := h5
   rw [if_pos h5', h5', hr0 h5']; rfl
  simp only [CQ] at h5
  have h5' : ¬ inst l m = 0 := h5
  refine ite_goal (fun h6 => ?_) fun h6 => ?_
  ·simp only [CQ] at h6
   have h6' : inst l m = 3 := h6
   rw [if_neg h5', if_pos h6', instL, if_neg h5', h6']; rfl
  ·simp only [CQ] at h6
   have h6' : ¬ inst l m = 3 := h6
   rw [if_neg h5', if_neg h6', instL, if_neg h5']; rfl
 simp only [CQ] at h4
 rw [if_neg h4]
 refine ite_goal (fun h6 => ?_) fun h6 => ?_
 ·simp only [CQ] at h6
  rw [if_pos h6, s58 l h m.ids hm.ids m.op, Option.bind_some, s59 mk hk, Option.bind_some]; rfl
 simp only [CQ] at h6
 rw [if_neg h6]
 refine ite_goal (fun h8 => ?_) fun h8 => ?_
 ·simp only [CQ] at h8
  rw [if_pos h8, s60 mk hk, Option.bind_some]; rfl
 simp only [CQ] at h8
 rw [if_neg h8]
 refine ite_goal (fun h10 => ?_) fun h10 => ?_
 ·simp only [CQ] at h10
  rw [if_pos h10, s61 l h m.op, Option.bind_some]; rfl
 ·simp only [CQ] at h10
  rw [if_neg h10]; rfl
theorem few_map {l : List Slot} (h : FewS l) (f : Slot → Slot) (hf : ∀ s, (f s).node.path.length ≤ s.node.path.length) : FewS (l.map f) :=
 ⟨by rw [List.length_map]; exact h.len, fun s hs => by
  obtain ⟨t, ht, rfl⟩ := List.mem_map.1 hs
  exact Nat.le_trans (hf t) (h.path t ht)⟩
theorem few_put {l : List Slot} (h : FewS l) (z : Int) (n : Node) : FewS (putL l z n) := by
 unfold putL
 split
 ·rename_i he
  have hok : nodeOk n = true := by
   unfold putErr at he
   split at he
   ·cases he
   ·rename_i hh
    cases hn : nodeOk n with
    | true => rfl
    | false => exact (hh (.inr (.inr (.inl hn)))).elim
  have hp := nodeOk_path hok
  refine ⟨by rw [List.length_modify]; exact h.len, fun s hs => ?_⟩
  obtain ⟨i, hi, rfl⟩ := List.getElem_of_mem hs
  rw [List.getElem_modify]
  split
  ·show n.path.length ≤ 20; omega
  ·exact h.path _ (List.getElem_mem _)
 ·exact ⟨by simp, by simp⟩
theorem few_inst {l : List Slot} (h : FewS l) (m : Msg) : FewS (instL l m) := by
 unfold instL
 split
 ·exact few_put h _ _
 ·exact h
theorem few_lock {l : List Slot} (h : FewS l) (ids : List Id) (b : Id) : FewS (l.map (lockS ids b)) := few_map h _ fun s => by unfold lockS; split <;> exact Nat.le_refl _
theorem few_sweep {l : List Slot} (h : FewS l) (b : Id) : FewS (sweepL b l) := by
 unfold sweepL
 split
 ·exact h
 ·exact few_map h _ fun s => by
   unfold sweepS
   split
   ·exact Nat.zero_le _
   ·exact Nat.le_refl _
theorem mkM_len (r : Int) (op : Id) (l : List Mark) : (mkM r op l).length ≤ l.length + 1 := by
 have := unmk_len r l
 have := fst_le (geR r) (unmk r l)
 simp only [mkM, List.length_append, List.length_take, List.length_drop, List.length_cons, List.length_nil]
 omega
theorem hold_few (core : Int) {l : List Slot} (h : FewS l) (mk : List Mark) (m : Msg) : FewS (hold core l mk m).slots ∧ (hold core l mk m).marks.length ≤ mk.length + 1 ∧ (∀ x ∈ (hold core l mk m).msgs, ∃ k e, x = rep k e m) ∧ (hold core l mk m).msgs.length ≤ 1 ∧ (hold core l mk m).coms.length ≤ 1 := by
 unfold hold
 split
 ·exact ⟨h, by simp, by simp, by simp, by simp⟩
 split
 ·refine ⟨few_inst h m, by simp, fun x hx => ⟨5, inst l m, by simpa using hx⟩, by simp, ?_⟩
  show (instC l m).length ≤ 1
  unfold instC; split
  ·simp
  ·split <;> simp
 split
 ·exact ⟨few_lock h _ _, by have := unmk_len m.region mk; show (unmk m.region mk).length ≤ _; omega, fun x hx => ⟨7, 0, by simpa using hx⟩, by simp, by simp⟩
 split
 ·exact ⟨h, mkM_len _ _ _, fun x hx => ⟨9, 0, by simpa using hx⟩, by simp, by simp⟩
 split
 ·exact ⟨few_sweep h _, by simp, fun x hx => ⟨11, 0, by simpa using hx⟩, by simp, by simp⟩
 ·exact ⟨h, by simp, by simp, by simp, by simp⟩
theorem rep_fits (k e : Int) (m : Msg) : (rep k e m).Fits := by
 have hv : noView.Fits := ⟨by simp [noView], by simp [noView]⟩
 have hs : noState.Fits := by constructor <;> simp [noState]
 exact ⟨by simp [rep, noReq, noNode], by simp [rep], by simp [rep], by simp [rep], by simp [rep], by simp [rep], hv, hs, ⟨hv, hs, hv, hs⟩⟩
theorem elem_coms {γ : Type} {l : List (Id × Bool)} {i : Nat} (h : i < l.length) (k : (Int × Int × Int × Bool) → Option γ) : elemK (l.map comc) (i : Int) [.int .i64, .int .i64, .int .i64, .bool] k = k (l[i].1.core, l[i].1.op, l[i].1.part, l[i].2) := elem_map (f := comc) (sh := [.int .i64, .int .i64, .int .i64, .bool]) (v := fun c => (c.1.core, c.1.op, c.1.part, c.2)) (fun _ => rfl) h k
theorem sameMk_refl (m : Mark) : sameMk m m = true := by simp [sameMk]
theorem s13 (core : Int) (l : List Slot) (h : FewS l) (mk : List Mark) (hk : mk.length ≤ 900) (m : Msg) (hm : m.Fits) : g13 core (l.map slotc) (mk.map markc) m.kind m.view m.frm m.to m.round m.region m.slot m.op.core m.op.op m.op.part m.err m.settled m.req.id.core m.req.id.op m.req.id.part m.req.call.kind m.req.call.slot m.req.call.dest m.req.call.core m.req.call.mask m.req.call.object m.req.call.bits m.req.call.level m.req.call.offset m.req.call.count m.req.call.index m.req.call.addr m.req.region m.req.width m.req.src.id.core m.req.src.id.op m.req.src.id.part (idCells m.req.src.path) m.req.src.cap.kind m.req.src.cap.base m.req.src.cap.bits m.req.src.cap.rights m.req.src.cap.width m.req.src.cap.level m.req.src.cap.device (idCells m.ids) (m.nodes.map nodec) (intCells m.cores) (m.moves.map movec) m.base m.next.number (intCells m.next.members) (intCells m.next.owners) (m.state.slots.map slotc) (m.state.pending.map reqc) (m.state.marks.map markc) (m.state.answers.map ansc) (m.state.entries.map entryc) (idCells m.state.commits) m.report.core m.report.view.number (intCells m.report.view.members) (intCells m.report.view.owners) (m.report.state.slots.map slotc) (m.report.state.pending.map reqc) (m.report.state.marks.map markc) (m.report.state.answers.map ansc) (m.report.state.entries.map entryc) (idCells m.report.state.commits) m.report.ready m.report.next.number (intCells m.report.next.members) (intCells m.report.next.owners) (m.report.proposal.slots.map slotc) (m.report.proposal.pending.map reqc) (m.report.proposal.marks.map markc) (m.report.proposal.answers.map ansc) (m.report.proposal.entries.map entryc) (idCells m.report.proposal.commits) = some true := by
 rw [g13_eq, s16 l h, Option.bind_some]
 refine (reqK_pos (room_small (by simp; omega) (by omega)) _).trans ?_
 rw [s15 core l h mk (by omega) m hm, Option.bind_some, s35 core l h mk (by omega) m hm, Option.bind_some]
 obtain ⟨f1, f2, f3, f4, f5⟩ := hold_few core h mk m
 generalize hold core l mk m = r at *
 simp only [holdc]
 have hc : r.coms.length < 2 ^ 63 := by omega
 have h1 := f1.len
 refine (if_neg (by simp [cop])).trans ?_
 have := scan_all (F := fun k i => g13L0 k (r.slots.map slotc) (r.marks.map markc) (r.msgs.map msgc) (r.coms.map comc) (r.slots.map slotc) (r.marks.map markc) (r.msgs.map msgc) (r.coms.map comc) i) (n := r.coms.length) (fin := some true) (bad := some false) (fun _ => true) hc 0 (by omega)
  (fun k i _ hi => by
   show g13L0 (k + 1) _ _ _ _ _ _ _ _ _ = _
   rw [g13L0_eq, List.length_map, if_pos (lss_t hi)]
   refine (elem_coms hi _).trans ?_
   refine (elem_coms hi _).trans ?_
   refine (if_neg (by simp [cop])).trans ?_
   rw [inc_i hi hc]; rfl)
  (fun k i hi => by
   show g13L0 (k + 1) _ _ _ _ _ _ _ _ _ = _
   rw [g13L0_eq, List.length_map, if_neg (lss_f hi)]
   have p1 : ∀ x ∈ r.slots, x.node.path.length < 2 ^ 63 := fun x hx => by have := f1.path x hx; omega
   rw [s22 _ _ (by omega) p1 p1, Option.bind_some, sameL_refl _ sameS_refl]
   refine (if_pos rfl).trans ?_
   rw [s36 _ _ (by omega), Option.bind_some, sameL_refl _ sameMk_refl]
   refine (if_pos rfl).trans ?_
   rw [s37 _ (by omega) (fun x hx => by obtain ⟨k, e, rfl⟩ := f3 x hx; exact rep_fits k e m)]
   rfl)
 refine this.trans ?_
 rw [if_pos (by simp)]
theorem s7 : g7 = some true := by kernel_rfl
theorem s9 (x n : Int) (h1 : 1 ≤ n) (h2 : n < 2 ^ 62) : g9 x n = some (x % n) := by
 have e62 : (2 : Int) ^ 62 = 4611686018427387904 := by decide
 have hm0 := Int.emod_nonneg x (show n ≠ 0 by omega)
 have hm1 := Int.emod_lt_of_pos x (show 0 < n by omega)
 have ht : iop .rem .i64 x n = x.tmod n := rfl
 rw [g9_eq, if_neg (by simp only [CQ]; omega), reqK_pos (by omega), ht]
 have := Int.tmod_eq_emod (a := x) (b := n)
 by_cases hd : 0 ≤ x ∨ n ∣ x
 ·rw [if_pos hd] at this
  rw [if_neg (by simp only [CQ]; omega)]
  congr 1
  omega
 ·rw [if_neg hd] at this
  have habs : ((n.natAbs : Nat) : Int) = n := by omega
  have hne : x % n ≠ 0 := fun h => hd (.inr (Int.dvd_of_emod_eq_zero h))
  rw [if_pos (by simp only [CQ]; omega), add_i (by omega) (by omega)]
  congr 1
  omega
theorem s4 (core : Int) (l : List Slot) (hl : l.length < 2 ^ 63) (hlp : ∀ s ∈ l, s.node.path.length < 2 ^ 63) (reg : Int) (op : Id) (m : Msg) (hm : m.Fits) : g4 core (l.map slotc) reg op.core op.op op.part m.kind m.view m.frm m.to m.round m.region m.slot m.op.core m.op.op m.op.part m.err m.settled m.req.id.core m.req.id.op m.req.id.part m.req.call.kind m.req.call.slot m.req.call.dest m.req.call.core m.req.call.mask m.req.call.object m.req.call.bits m.req.call.level m.req.call.offset m.req.call.count m.req.call.index m.req.call.addr m.req.region m.req.width m.req.src.id.core m.req.src.id.op m.req.src.id.part (idCells m.req.src.path) m.req.src.cap.kind m.req.src.cap.base m.req.src.cap.bits m.req.src.cap.rights m.req.src.cap.width m.req.src.cap.level m.req.src.cap.device (idCells m.ids) (m.nodes.map nodec) (intCells m.cores) (m.moves.map movec) m.base m.next.number (intCells m.next.members) (intCells m.next.owners) (m.state.slots.map slotc) (m.state.pending.map reqc) (m.state.marks.map markc) (m.state.answers.map ansc) (m.state.entries.map entryc) (idCells m.state.commits) m.report.core m.report.view.number (intCells m.report.view.members) (intCells m.report.view.owners) (m.report.state.slots.map slotc) (m.report.state.pending.map reqc) (m.report.state.marks.map markc) (m.report.state.answers.map ansc) (m.report.state.entries.map entryc) (idCells m.report.state.commits) m.report.ready m.report.next.number (intCells m.report.next.members) (intCells m.report.next.owners) (m.report.proposal.slots.map slotc) (m.report.proposal.pending.map reqc) (m.report.proposal.marks.map markc) (m.report.proposal.answers.map ansc) (m.report.proposal.entries.map entryc) (idCells m.report.proposal.commits) = some true := by
 rw [g4_eq]
 refine ite_goal (fun _ => by rw [s7]; rfl) fun h1 => ?_
 refine ite_goal (fun _ => by rw [s7]; rfl) fun h2 => ?_
 refine ite_goal (fun _ => by rw [s7]; rfl) fun h3 => ?_
 refine ite_goal (fun _ => by rw [s7]; rfl) fun h4 => ?_
 refine ite_goal (fun _ => by rw [s7]; rfl) fun h5 => ?_
 simp only [CQ, List.length_map] at h1
 have key : ∀ (j i fuel : Nat), l.length = i + j → j < fuel → (∀ k (hk : k < l.length), k < i → l[k].node.path.length ≤ 20) → g4L0 fuel core (l.map slotc) reg op.core op.op op.part m.kind m.view m.frm m.to m.round m.region m.slot m.op.core m.op.op m.op.part m.err m.settled m.req.id.core m.req.id.op m.req.id.part m.req.call.kind m.req.call.slot m.req.call.dest m.req.call.core m.req.call.mask m.req.call.object m.req.call.bits m.req.call.level m.req.call.offset m.req.call.count m.req.call.index m.req.call.addr m.req.region m.req.width m.req.src.id.core m.req.src.id.op m.req.src.id.part (idCells m.req.src.path) m.req.src.cap.kind m.req.src.cap.base m.req.src.cap.bits m.req.src.cap.rights m.req.src.cap.width m.req.src.cap.level m.req.src.cap.device (idCells m.ids) (m.nodes.map nodec) (intCells m.cores) (m.moves.map movec) m.base m.next.number (intCells m.next.members) (intCells m.next.owners) (m.state.slots.map slotc) (m.state.pending.map reqc) (m.state.marks.map markc) (m.state.answers.map ansc) (m.state.entries.map entryc) (idCells m.state.commits) m.report.core m.report.view.number (intCells m.report.view.members) (intCells m.report.view.owners) (m.report.state.slots.map slotc) (m.report.state.pending.map reqc) (m.report.state.marks.map markc) (m.report.state.answers.map ansc) (m.report.state.entries.map entryc) (idCells m.report.state.commits) m.report.ready m.report.next.number (intCells m.report.next.members) (intCells m.report.next.owners) (m.report.proposal.slots.map slotc) (m.report.proposal.pending.map reqc) (m.report.proposal.marks.map markc) (m.report.proposal.answers.map ansc) (m.report.proposal.entries.map entryc) (idCells m.report.proposal.commits) (i : Int) = some true := by
  intro j
  induction j with
  | zero =>
   intro i fuel h hf hp
   obtain ⟨q, rfl⟩ : ∃ q, fuel = q + 1 := ⟨fuel - 1, by omega⟩
   rw [g4L0_eq, List.length_map, if_neg (lss_f (by omega))]
   rw [s9 reg 16 (by omega) (by omega), Option.bind_some]
   have hfew : FewS l := ⟨by omega, fun s hs => by obtain ⟨k, hk, rfl⟩ := List.getElem_of_mem hs; exact hp k hk (by omega)⟩
   have := s13 core l hfew [⟨reg % 16, op⟩] (by simp) m hm
   refine (congrArg (fun o => Option.bind o _) this).trans ?_
   rw [Option.bind_some]
   refine (if_pos rfl).trans ?_
   rw [s7]; rfl
  | succ j ih =>
   intro i fuel h hf hp
   obtain ⟨q, rfl⟩ : ∃ q, fuel = q + 1 := ⟨fuel - 1, by omega⟩
   have hi : i < l.length := by omega
   rw [g4L0_eq, List.length_map, if_pos (lss_t hi)]
   refine (elem_slots hi _).trans ?_
   simp only [slotV, d2, d4, d8, d16]
   refine ite_goal (fun _ => by rw [s7]; rfl) fun h6 => ?_
   simp only [CQ, ids_len] at h6
   rw [inc_i hi hl]
   exact ih (i + 1) q (by omega) (by omega) fun k hk hki => by
    by_cases hkk : k = i
    ·subst hkk; omega
    ·exact hp k hk (by omega)
 exact key l.length 0 FUEL (by omega) (by have := fuel63 hl; omega) (fun k _ h => by omega)
theorem s4t (core : Int) (l : List Slot) (hl : l.length < 2 ^ 63) (hlp : ∀ s ∈ l, s.node.path.length < 2 ^ 63) (reg a b c : Int) (m : Msg) (hm : m.Fits) : g4 core (l.map slotc) reg a b c m.kind m.view m.frm m.to m.round m.region m.slot m.op.core m.op.op m.op.part m.err m.settled m.req.id.core m.req.id.op m.req.id.part m.req.call.kind m.req.call.slot m.req.call.dest m.req.call.core m.req.call.mask m.req.call.object m.req.call.bits m.req.call.level m.req.call.offset m.req.call.count m.req.call.index m.req.call.addr m.req.region m.req.width m.req.src.id.core m.req.src.id.op m.req.src.id.part (idCells m.req.src.path) m.req.src.cap.kind m.req.src.cap.base m.req.src.cap.bits m.req.src.cap.rights m.req.src.cap.width m.req.src.cap.level m.req.src.cap.device (idCells m.ids) (m.nodes.map nodec) (intCells m.cores) (m.moves.map movec) m.base m.next.number (intCells m.next.members) (intCells m.next.owners) (m.state.slots.map slotc) (m.state.pending.map reqc) (m.state.marks.map markc) (m.state.answers.map ansc) (m.state.entries.map entryc) (idCells m.state.commits) m.report.core m.report.view.number (intCells m.report.view.members) (intCells m.report.view.owners) (m.report.state.slots.map slotc) (m.report.state.pending.map reqc) (m.report.state.marks.map markc) (m.report.state.answers.map ansc) (m.report.state.entries.map entryc) (idCells m.report.state.commits) m.report.ready m.report.next.number (intCells m.report.next.members) (intCells m.report.next.owners) (m.report.proposal.slots.map slotc) (m.report.proposal.pending.map reqc) (m.report.proposal.marks.map markc) (m.report.proposal.answers.map ansc) (m.report.proposal.entries.map entryc) (idCells m.report.proposal.commits) = some true := s4 core l hl hlp reg ⟨a, b, c⟩ m hm
end Go.Proofs.YtljejgmcgddppaaGreat
end

section
namespace Go.Proofs.YtljejgmcgddppaaGreat
open Go Go.AM
set_option linter.unusedSimpArgs false
set_option linter.unusedVariables false
set_option maxRecDepth 100000
theorem ty_ints {d : Nat} {cs : List AV} (h : TyR Tryz.prog (d + 2) 22 cs) : ∃ l, cs = [.slice false 1 (intCells l)] ∧ l.length ≤ maxLen := by
 rw [TyR] at h
 simp only [Tryz.underlying22, cells3] at h
 obtain ⟨xs, h1, h2, h3⟩ := h
 obtain ⟨l, rfl, h5⟩ := list_lift (f := i64c) (p := fun _ => True) xs fun y hy => by
  obtain ⟨z, hz⟩ := ty_int (h3 y hy)
  exact ⟨z, hz, trivial⟩
 exact ⟨l, by simpa [intCells] using h1, by simpa using h2⟩
theorem ty_view {d : Nat} {cs : List AV} (h : TyR Tryz.prog (d + 3) 50 cs) : ∃ v : View, cs = viewc v ∧ v.Fits := by
 rw [TyR] at h
 simp only [Tryz.underlying50] at h
 obtain ⟨ps, rfl, hl, hp⟩ := h
 obtain ⟨p0, p1, p2, rfl⟩ : ∃ p0 p1 p2, ps = [p0, p1, p2] := by
  match ps, hl with
  | [p0, p1, p2], _ => exact ⟨p0, p1, p2, rfl⟩
 obtain ⟨n, rfl⟩ := ty_int (hp 0 _ _ rfl rfl)
 obtain ⟨m, rfl, hm⟩ := ty_ints (hp 1 _ _ rfl rfl)
 obtain ⟨o, rfl, ho⟩ := ty_ints (hp 2 _ _ rfl rfl)
 exact ⟨⟨n, m, o⟩, rfl, le63 hm, le63 ho⟩
theorem ty_report {d : Nat} {cs : List AV} (h : TyR Tryz.prog (d + 8) 52 cs) : ∃ r : Report, cs = reportc r ∧ r.Fits := by
 rw [TyR] at h
 simp only [Tryz.underlying52] at h
 obtain ⟨ps, rfl, hl, hp⟩ := h
 obtain ⟨p0, p1, p2, p3, p4, p5, rfl⟩ : ∃ p0 p1 p2 p3 p4 p5, ps = [p0, p1, p2, p3, p4, p5] := by
  match ps, hl with
  | [p0, p1, p2, p3, p4, p5], _ => exact ⟨p0, p1, p2, p3, p4, p5, rfl⟩
 obtain ⟨n, rfl⟩ := ty_int (hp 0 _ _ rfl rfl)
 obtain ⟨v, rfl, hv⟩ := ty_view (hp 1 _ _ rfl rfl)
 obtain ⟨s, rfl, hs⟩ := ty_state (hp 2 _ _ rfl rfl)
 obtain ⟨b, rfl⟩ := ty_bool (hp 3 _ _ rfl rfl)
 obtain ⟨w, rfl, hw⟩ := ty_view (hp 4 _ _ rfl rfl)
 obtain ⟨t, rfl, ht⟩ := ty_state (hp 5 _ _ rfl rfl)
 exact ⟨⟨n, v, s, b, w, t⟩, by simp [reportc], ⟨hv, hs, hw, ht⟩⟩
theorem cellsM : Tryz.prog.cellsOf 98 = 2 := by kernel_rfl
theorem cellsN : Tryz.prog.cellsOf 44 = 11 := by kernel_rfl
theorem ty_move {d : Nat} {cs : List AV} (h : TyR Tryz.prog (d + 2) 98 cs) : ∃ m : Move, cs = movec m := by
 rw [TyR] at h
 simp only [Tryz.underlying98] at h
 obtain ⟨ps, rfl, hl, hp⟩ := h
 obtain ⟨p0, p1, rfl⟩ : ∃ p0 p1, ps = [p0, p1] := by
  match ps, hl with
  | [p0, p1], _ => exact ⟨p0, p1, rfl⟩
 obtain ⟨a, rfl⟩ := ty_int (hp 0 _ _ rfl rfl)
 obtain ⟨b, rfl⟩ := ty_int (hp 1 _ _ rfl rfl)
 exact ⟨⟨a, b⟩, rfl⟩
theorem ty_moves {d : Nat} {cs : List AV} (h : TyR Tryz.prog (d + 3) 48 cs) : ∃ l : List Move, cs = [.slice false 2 (l.map movec)] ∧ l.length < 2 ^ 63 := by
 rw [TyR] at h
 simp only [Tryz.underlying48, cellsM] at h
 obtain ⟨xs, h1, h2, h3⟩ := h
 obtain ⟨l, rfl, h5⟩ := list_lift (f := movec) (p := fun _ => True) xs fun y hy => (ty_move (h3 y hy)).elim fun a h => ⟨a, h, trivial⟩
 exact ⟨l, h1, le63 (by simpa using h2)⟩
theorem ty_nodes {d : Nat} {cs : List AV} (h : TyR Tryz.prog (d + 5) 47 cs) : ∃ l : List Node, cs = [.slice false 11 (l.map nodec)] ∧ l.length < 2 ^ 63 ∧ ∀ x ∈ l, x.path.length < 2 ^ 63 := by
 rw [TyR] at h
 simp only [Tryz.underlying47, cellsN] at h
 obtain ⟨xs, h1, h2, h3⟩ := h
 obtain ⟨l, rfl, h5⟩ := list_lift (f := nodec) (p := fun x => x.path.length < 2 ^ 63) xs fun y hy => ty_node (h3 y hy)
 exact ⟨l, h1, le63 (by simpa using h2), h5⟩
theorem ty_msg {d : Nat} {cs : List AV} (h : TyR Tryz.prog (d + 10) 54 cs) : ∃ m : Msg, cs = msgc m ∧ m.Fits := by
 rw [TyR] at h
 simp only [Tryz.underlying54] at h
 obtain ⟨ps, rfl, hl, hp⟩ := h
 obtain ⟨p0, p1, p2, p3, p4, p5, p6, p7, p8, p9, p10, p11, p12, p13, p14, p15, p16, p17, p18, rfl⟩ : ∃ p0 p1 p2 p3 p4 p5 p6 p7 p8 p9 p10 p11 p12 p13 p14 p15 p16 p17 p18, ps = [p0, p1, p2, p3, p4, p5, p6, p7, p8, p9, p10, p11, p12, p13, p14, p15, p16, p17, p18] := by
  match ps, hl with
  | [p0, p1, p2, p3, p4, p5, p6, p7, p8, p9, p10, p11, p12, p13, p14, p15, p16, p17, p18], _ => exact ⟨p0, p1, p2, p3, p4, p5, p6, p7, p8, p9, p10, p11, p12, p13, p14, p15, p16, p17, p18, rfl⟩
 obtain ⟨k0, rfl⟩ := ty_int (hp 0 _ _ rfl rfl)
 obtain ⟨k1, rfl⟩ := ty_int (hp 1 _ _ rfl rfl)
 obtain ⟨k2, rfl⟩ := ty_int (hp 2 _ _ rfl rfl)
 obtain ⟨k3, rfl⟩ := ty_int (hp 3 _ _ rfl rfl)
 obtain ⟨k4, rfl⟩ := ty_int (hp 4 _ _ rfl rfl)
 obtain ⟨k5, rfl⟩ := ty_int (hp 5 _ _ rfl rfl)
 obtain ⟨k6, rfl⟩ := ty_int (hp 6 _ _ rfl rfl)
 obtain ⟨op, rfl⟩ := ty_id (hp 7 _ _ rfl rfl)
 obtain ⟨e, rfl⟩ := ty_err (hp 8 _ _ rfl rfl)
 obtain ⟨st, rfl⟩ := ty_bool (hp 9 _ _ rfl rfl)
 obtain ⟨r, rfl, hr⟩ := ty_req (hp 10 _ _ rfl rfl)
 obtain ⟨l1, rfl, h1⟩ := ty_ids (hp 11 _ _ rfl rfl)
 obtain ⟨l2, rfl, h2, h2b⟩ := ty_nodes (hp 12 _ _ rfl rfl)
 obtain ⟨l3, rfl, h3⟩ := ty_ints (hp 13 _ _ rfl rfl)
 obtain ⟨l4, rfl, h4⟩ := ty_moves (hp 14 _ _ rfl rfl)
 obtain ⟨bs, rfl⟩ := ty_int (hp 15 _ _ rfl rfl)
 obtain ⟨nx, rfl, hn⟩ := ty_view (hp 16 _ _ rfl rfl)
 obtain ⟨ss, rfl, hs⟩ := ty_state (hp 17 _ _ rfl rfl)
 obtain ⟨rp, rfl, hp2⟩ := ty_report (hp 18 _ _ rfl rfl)
 exact ⟨⟨k0, k1, k2, k3, k4, k5, k6, op, e, st, r, l1, l2, l3, l4, bs, nx, ss, rp⟩, by simp [msgc, idc], ⟨hr, le63 h1, h2, h2b, le63 h3, h4, hn, hs, hp2⟩⟩
theorem arg_msg {x : AV} (h : ArgTy Tryz.prog 12 54 x) : ∃ m : Msg, x = .agg (msgc m) ∧ m.Fits := by
 simp only [ArgTy, Tryz.underlying54] at h
 obtain ⟨cs, rfl, h⟩ := h
 obtain ⟨m, rfl, hm⟩ := ty_msg h
 exact ⟨m, rfl, hm⟩
theorem arg_slots {x : AV} (h : ArgTy Tryz.prog 12 28 x) : ∃ l : List Slot, x = .slice false 15 (l.map slotc) ∧ l.length < 2 ^ 63 ∧ ∀ s ∈ l, s.node.path.length < 2 ^ 63 := by
 simp only [ArgTy, Tryz.underlying28] at h
 obtain ⟨l, h1, h2, h3⟩ := ty_slots h.2
 exact ⟨l, by simpa using h1, h2, h3⟩
end Go.Proofs.YtljejgmcgddppaaGreat
end
