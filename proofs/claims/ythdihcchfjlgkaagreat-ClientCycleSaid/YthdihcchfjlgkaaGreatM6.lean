/- T5L23j, T5C24a, T5C24c, T5C24d, T5Fa, T5Fb, T5Fc: texts of the proof, put together. -/
import Derived.Test.YthdihcchfjlgkaaGreatM5
import Derived.Test.YthdihcchfjlgkaaGreatF5d

section
namespace Go.Proofs.YthdihcchfjlgkaaGreat
open Go Go.AM
set_option linter.unusedSimpArgs false
set_option linter.unusedVariables false
set_option maxRecDepth 100000
structure VwG (v : View) : Prop where
 ok : viewOk v = true
 members : v.members.length ≤ 4
 owners : v.owners.length ≤ 4
theorem core_ok {z : Int} (h : 0 ≤ z ∧ z < 4) : coreOk z = true := by simp only [coreOk, decide_eq_true_eq]; omega
structure StS (s : State) : Prop where
 ok : stateOk s = true
 slots : s.slots.length ≤ 12
 spath : ∀ x ∈ s.slots, x.node.path.length ≤ 20
 pend : s.pending.length ≤ 3
 psrc : ∀ q ∈ s.pending, q.src.path.length ≤ 20
 marks : s.marks.length ≤ 3
 answers : s.answers.length ≤ 3
 entries : s.entries.length ≤ 3
 epath : ∀ e ∈ s.entries, e.node.path.length ≤ 20
 commits : s.commits.length ≤ 3
theorem StS.fits {s : State} (h : StS s) : s.Fits := by
 have h1 := h.slots; have h2 := h.pend; have h3 := h.marks; have h4 := h.answers; have h5 := h.entries; have h6 := h.commits
 exact ⟨by omega, by omega, by omega, by omega, by omega, by omega, fun x hx => by have := h.spath x hx; omega, fun x hx => by have := h.psrc x hx; omega, fun x hx => by have := h.epath x hx; omega⟩
theorem no_st : StS noState := ⟨by kernel_rfl, by simp [noState], by simp [noState], by simp [noState], by simp [noState], by simp [noState], by simp [noState], by simp [noState], by simp [noState], by simp [noState]⟩
theorem no_vw : VwG noView := ⟨by kernel_rfl, by simp [noView], by simp [noView]⟩
theorem VwG.fits {v : View} (h : VwG v) : v.Fits := ⟨by have := h.members; omega, by have := h.owners; omega⟩
structure RpS (r : Report) : Prop where
 core : coreOk r.core = true
 view : VwG r.view
 state : StS r.state
 next : VwG r.next
 proposal : StS r.proposal
theorem no_rp : RpS noReport := ⟨by kernel_rfl, no_vw, no_st, no_vw, no_st⟩
theorem RpS.fits {r : Report} (h : RpS r) : r.Fits := ⟨h.view.fits, h.state.fits, h.next.fits, h.proposal.fits⟩
theorem valid_of (m : Msg) (k : Nat) (hk : m.kind = (k : Int)) (h1 : 1 ≤ k) (h2 : k ≤ 17) (hv : 0 ≤ m.view ∧ m.view < 70) (hf : 0 ≤ m.frm ∧ m.frm < 4) (ht : 0 ≤ m.to ∧ m.to < 4) (hfs : (kf k).all (fieldOk m) = true) (hr : rest k m = true) : validB m = true := by
 have e1 : kindOk m.kind = true := by simp only [kindOk, decide_eq_true_eq]; omega
 have e2 : numOk m.view = true := by simp only [numOk, decide_eq_true_eq]; omega
 have e3 : m.kind.toNat = k := by omega
 simp only [validB, headOk, e1, e2, core_ok hf, core_ok ht, e3, hfs, hr, Bool.and_self]
end Go.Proofs.YthdihcchfjlgkaaGreat
end

section
namespace Go.Proofs.YthdihcchfjlgkaaGreat
open Go Go.AM
set_option linter.unusedSimpArgs false
set_option linter.unusedVariables false
set_option maxRecDepth 100000
theorem s48 (r : Req) (h : r.src.path.length ≤ 64) : g48 r.id.core r.id.op r.id.part r.call.kind r.call.slot r.call.dest r.call.core r.call.mask r.call.object r.call.bits r.call.level r.call.offset r.call.count r.call.index r.call.addr r.region r.width r.src.id.core r.src.id.op r.src.id.part (idCells r.src.path) r.src.cap.kind r.src.cap.base r.src.cap.bits r.src.cap.rights r.src.cap.width r.src.cap.level r.src.cap.device = some (reqV r) := by
 rw [g48_eq, s26 _ h]; rfl
theorem s17 (p : List Req) (h : Few p) : g17 (p.map reqc) = some (p.map reqc) := by
 rw [g17_eq]
 have hn : p.length < 2 ^ 63 := by have := h.len; omega
 refine (collect (F := fun k acc i => g17L0 k (p.map reqc) acc i) p (fun r => [reqc r]) hn (fun k i hi => ?_) (fun k acc i hi => ?_)).trans (by rw [flat_one])
 ·show g17L0 (k + 1) _ _ _ = _
  rw [g17L0_eq, List.length_map, if_pos (lss_t hi)]
  refine (elem_reqs hi _).trans ?_
  simp only [reqV, d2, d4, d8, d16]
  have hp := h.path p[i] (List.getElem_mem hi)
  rw [s48 p[i] (by omega), Option.bind_some]
  refine (reqK_pos (room_small ?_ (by omega)) _).trans ?_
  ·rw [flat_one]
   have := h.len
   simp only [List.length_map, List.length_take, List.length_append, List.length_cons, List.length_nil]
   omega
  ·rw [inc_i hi hn]
   rfl
 ·show g17L0 (k + 1) _ _ _ = _
  rw [g17L0_eq, List.length_map, if_neg (lss_f hi)]
end Go.Proofs.YthdihcchfjlgkaaGreat
end

section
namespace Go.Proofs.YthdihcchfjlgkaaGreat
open Go Go.AM
set_option linter.unusedSimpArgs false
set_option linter.unusedVariables false
set_option maxRecDepth 100000
theorem s73 (p : List Req) (h : Few p) : g73 (p.map reqc) = some (p.map reqc) := by
 rw [g73_eq]
 refine nilK_of (fun hn => ?_) ?_
 ·rw [if_pos rfl, hn]
 ·rw [if_neg Bool.false_ne_true]
  refine reqK_pos (room_small (by have := h.len; simp; omega) (by omega)) _
theorem s42 (p : List Req) (h : Few p) : g42 (p.map reqc) = some (p.map reqc) := by
 rw [g42_eq, s73 p h, Option.bind_some, List.length_map]
 have hn : p.length < 2 ^ 63 := by have := h.len; omega
 have := scan_all (F := fun k i => g42L0 k (p.map reqc) (p.length : Int) i) (n := p.length) (fin := some (p.map reqc)) (bad := none) (fun _ => true) hn 0 (by omega)
  (fun k i _ hi => by
   show g42L0 (k + 1) _ _ _ = _
   rw [g42L0_eq, if_pos (lss_t hi), List.length_map]
   have hin := nat_lt hi
   refine (reqK_pos (by omega) _).trans ?_
   refine (reqK_pos hin _).trans ?_
   refine (elem_reqs hi _).trans ?_
   simp only [reqV, d2, d4, d8, d16]
   have hp := h.path p[i] (List.getElem_mem hi)
   rw [s40 p[i].src (by omega), Option.bind_some]
   refine (reqK_pos (by omega) _).trans ?_
   refine (reqK_pos hin _).trans ?_
   refine (reqK_pos (by omega) _).trans ?_
   refine (reqK_pos hin _).trans ?_
   rw [inc_i hi hn]
   refine Eq.trans ?_ (if_pos trivial).symm
   refine congrArg (fun x => g42L0 k x (p.length : Int) ((i + 1 : Nat) : Int)) ?_
   refine set_same reqc p _ 17 (nodec p[i].src) fun x hx => ?_
   have hx' : p[i] = x := by
    rw [Int.toNat_natCast, List.getElem?_eq_getElem hi] at hx
    exact Option.some.inj hx
   rw [hx']
   rfl)
  (fun k i hi => by show g42L0 (k + 1) _ _ _ = _; rw [g42L0_eq, if_neg (lss_f hi)])
 refine this.trans ?_
 rw [if_pos (by simp)]
theorem l36 (l : List Slot) (op : Int) (z : List Int) (hn : z.length < 2 ^ 63) (hz : ∀ v ∈ z, 0 ≤ v ∧ v < l.length) : g36L0 FUEL (l.map slotc) op (l.map slotc) (intCells z) (z.length : Int) 0 = some (resc (rsv2 l op z)) := by
 refine loop2 (F := fun k acc i => g36L0 k (l.map slotc) op acc (intCells z) (z.length : Int) i) l op z hn hz (fun k i acc hi hv ha => ?_) (fun k i acc hi => ?_)
 ·show g36L0 (k + 1) _ _ _ _ _ _ = _
  have h0 := (hz z[i] (List.getElem_mem hi)).1
  rw [g36L0_eq, if_pos (lss_t hi)]
  refine (elem_ints hi _).trans ?_
  refine (elem_slot_at h0 hv _).trans ?_
  simp only [slotV, d2, d4, d8, d16]
  rw [s68, Option.bind_some]
  refine ite_goal (fun h => ?_) fun h => ?_
  ·rw [if_pos h]
  ·rw [if_neg h]
   have hlt : z[i] < ((acc.map slotc).length : Int) := by rw [List.length_map, ha]; omega
   refine (reqK_pos h0 _).trans ?_
   refine (reqK_pos hlt _).trans ?_
   refine (reqK_pos h0 _).trans ?_
   refine (reqK_pos hlt _).trans ?_
   rw [inc_i hi hn, set_op]
 ·show g36L0 (k + 1) _ _ _ _ _ _ = _
  rw [g36L0_eq, if_neg (lss_f hi)]
theorem s36 (l : List Slot) (h : FewS l) (z : List Int) (hz : z.length ≤ 4096) (op : Int) : g36 (l.map slotc) (intCells z) op = some (resc (reserve l z op)) := by
 have hn : z.length < 2 ^ 63 := by omega
 have hzl : (intCells z).length = z.length := by simp [intCells]
 rw [g36_eq]
 refine ite_goal (fun h1 => ?_) fun h1 => ite_goal (fun h2 => ?_) fun h2 => ?_
 ·simp only [CQ] at h1
  rw [reserve, if_pos (.inl h1)]; rfl
 ·simp only [CQ] at h2
  rw [reserve, if_pos (.inr h2)]; rfl
 ·simp only [CQ] at h1 h2
  rw [reserve, if_neg (by omega), hzl]
  have := scan_all (F := fun k i => g36L1 k (l.map slotc) (intCells z) op (intCells z) (z.length : Int) i) (n := z.length) (fin := (g43 (l.map slotc)).bind fun r6 => g36L0 FUEL (l.map slotc) op r6 (intCells z) (z.length : Int) 0) (bad := some ([], 1)) (okAt l.length z) hn 0 (by omega)
   (fun k i _ hi => by
    show g36L1 (k + 1) _ _ _ _ _ _ = _
    rw [g36L1_eq, if_pos (lss_t hi)]
    refine (elem_ints hi _).trans ?_
    simp only [okAt, List.getElem?_eq_getElem hi]
    refine ite_goal (fun h3 => ?_) fun h3 => ite_goal (fun h4 => ?_) fun h4 => ?_
    ·simp only [CQ] at h3
     rw [if_neg (by simp; omega)]
    ·simp only [CQ, List.length_map] at h4
     rw [if_neg (by simp; omega)]
    ·simp only [CQ, List.length_map] at h3 h4
     refine (reqK_pos (by omega) _).trans ?_
     refine (reqK_pos (by rw [hzl]; omega) _).trans ?_
     rw [take_ints, s67 _ (by rw [List.length_take]; omega), Option.bind_some, inc_i hi hn]
     refine ite_goal (fun h5 => ?_) fun h5 => ?_
     ·rw [if_neg (by simp only [h5]; simp)]
     ·rw [if_pos (by simp only [Bool.not_eq_true] at h5; simp only [h5]; simp; omega)])
   (fun k i hi => by
    show g36L1 (k + 1) _ _ _ _ _ _ = _
    rw [g36L1_eq, if_neg (lss_f hi), hzl])
  refine this.trans ?_
  rw [Nat.sub_zero]
  by_cases hok : (List.range' 0 z.length).all (okAt l.length z) = true
  ·rw [if_pos hok, if_pos hok, s43 l h, Option.bind_some]
   exact l36 l op z hn (ok_range hok)
  ·rw [if_neg hok, if_neg hok]; rfl
end Go.Proofs.YthdihcchfjlgkaaGreat
end

section
namespace Go.Proofs.YthdihcchfjlgkaaGreat
open Go Go.AM
set_option linter.unusedSimpArgs false
set_option linter.unusedVariables false
set_option maxRecDepth 100000
theorem s35 (p : List Req) (hn : p.length < 2 ^ 63) (i : Id) : g35 (p.map reqc) i.core i.op i.part = some (hitZ p.length (fst' (idIs i) p), idIn i p) := by
 rw [g35_eq, g37c66_eq, List.length_map]
 have := scan_stop (F := fun k z => g37c66L0 k (p.map reqc) (p.length : Int) z i.core i.op i.part) (n := p.length) (fun m => (hitZ p.length m, i.core, i.op, i.part)) (atR (idIs i) p) hn
  (fun k j hj => by
   show g37c66L0 (k + 1) _ _ _ _ _ _ = _
   rw [g37c66L0_eq, if_pos (lss_t hj)]
   refine (elem_reqs hj _).trans ?_
   simp only [reqV, d2, d4, d8, d16]
   rw [g66_eq, Option.bind_some, id_dec, atR_at _ hj, inc_i hj hn, hitZ_lt hj])
  (fun k => by
   show g37c66L0 (k + 1) _ _ _ _ _ _ = _
   rw [g37c66L0_eq, if_neg (lss_f (Nat.le_refl _)), hitZ, if_neg (Nat.lt_irrefl _)]) (fst' (idIs i) p) (fst_le _ p) (fun j hj => by
    have hl := fst_le (idIs i) p
    rw [atR_at _ (by omega)]; exact fst_lt _ p j (by omega) hj) (fun h => by rw [atR_at _ h]; exact fst_at _ p h)
 have this' : g37c66L0 FUEL (p.map reqc) (p.length : Int) 0 i.core i.op i.part = _ := this
 rw [this', Option.bind_some, hitZ_geq]
 try rfl
theorem s37c38 (p : List Req) (hn : p.length < 2 ^ 63) (r : Req) : g37c38 (p.map reqc) r.id.core r.id.op r.id.part r.call.kind r.call.slot r.call.dest r.call.core r.call.mask r.call.object r.call.bits r.call.level r.call.offset r.call.count r.call.index r.call.addr r.region r.width r.src.id.core r.src.id.op r.src.id.part (idCells r.src.path) r.src.cap.kind r.src.cap.base r.src.cap.bits r.src.cap.rights r.src.cap.width r.src.cap.level r.src.cap.device = some (hitZ p.length (posR p r), r.id.core, r.id.op, r.id.part, r.call.kind, r.call.slot, r.call.dest, r.call.core, r.call.mask, r.call.object, r.call.bits, r.call.level, r.call.offset, r.call.count, r.call.index, r.call.addr, r.region, r.width, r.src.id.core, r.src.id.op, r.src.id.part, (idCells r.src.path), r.src.cap.kind, r.src.cap.base, r.src.cap.bits, r.src.cap.rights, r.src.cap.width, r.src.cap.level, r.src.cap.device) := by
 rw [g37c38_eq, List.length_map]
 exact scan_stop (F := fun k z => g37c38L0 k (p.map reqc) (p.length : Int) z r.id.core r.id.op r.id.part r.call.kind r.call.slot r.call.dest r.call.core r.call.mask r.call.object r.call.bits r.call.level r.call.offset r.call.count r.call.index r.call.addr r.region r.width r.src.id.core r.src.id.op r.src.id.part (idCells r.src.path) r.src.cap.kind r.src.cap.base r.src.cap.bits r.src.cap.rights r.src.cap.width r.src.cap.level r.src.cap.device) (n := p.length) (fun m => (hitZ p.length m, r.id.core, r.id.op, r.id.part, r.call.kind, r.call.slot, r.call.dest, r.call.core, r.call.mask, r.call.object, r.call.bits, r.call.level, r.call.offset, r.call.count, r.call.index, r.call.addr, r.region, r.width, r.src.id.core, r.src.id.op, r.src.id.part, (idCells r.src.path), r.src.cap.kind, r.src.cap.base, r.src.cap.bits, r.src.cap.rights, r.src.cap.width, r.src.cap.level, r.src.cap.device)) (atR (before r) p) hn
  (fun k j hj => by
   show g37c38L0 (k + 1) _ _ _ _ _ _ _ _ _ _ _ _ _ _ _ _ _ _ _ _ _ _ _ _ _ _ _ _ _ _ _ = _
   rw [g37c38L0_eq, if_pos (lss_t hj)]
   refine (elem_reqs hj _).trans ?_
   simp only [reqV, d2, d4, d8, d16]
   rw [g38_eq, s39, Option.bind_some, Option.bind_some, atR_at _ hj, inc_i hj hn, hitZ_lt hj]
   rfl)
  (fun k => by
   show g37c38L0 (k + 1) _ _ _ _ _ _ _ _ _ _ _ _ _ _ _ _ _ _ _ _ _ _ _ _ _ _ _ _ _ _ _ = _
   rw [g37c38L0_eq, if_neg (lss_f (Nat.le_refl _)), hitZ, if_neg (Nat.lt_irrefl _)]) (fst' (before r) p) (fst_le _ p) (fun j hj => by
    have hl := fst_le (before r) p
    rw [atR_at _ (by omega)]; exact fst_lt _ p j (by omega) hj) (fun h => by rw [atR_at _ h]; exact fst_at _ p h)
theorem ins_cells (p : List Req) (r : Req) (m : Nat) (hm : m ≤ p.length) (h : Few p) : g41 (p.map reqc) (m : Int) [reqc r] = some ((insR p r m).map reqc) := by
 rw [g41_eq, gIns]
 refine (reqK_pos (by omega) _).trans ?_
 refine (reqK_pos (by rw [List.length_map]; omega) _).trans ?_
 refine (reqK_pos (by simp) _).trans ?_
 refine (reqK_pos (room_small (by have := h.len; simp; omega) (by omega)) _).trans ?_
 rw [take_reqs, drop_reqs, insR, List.map_append, List.map_append]
 rfl
theorem s14 (l : List Slot) (hl : FewS l) (p : List Req) (hp : Few p) (r : Req) (hr : r.src.path.length ≤ 20) (z : List Int) (hz : z.length ≤ 4096) : g14 (l.map slotc) (p.map reqc) r.id.core r.id.op r.id.part r.call.kind r.call.slot r.call.dest r.call.core r.call.mask r.call.object r.call.bits r.call.level r.call.offset r.call.count r.call.index r.call.addr r.region r.width r.src.id.core r.src.id.op r.src.id.part (idCells r.src.path) r.src.cap.kind r.src.cap.base r.src.cap.bits r.src.cap.rights r.src.cap.width r.src.cap.level r.src.cap.device (intCells z) = some (beginc (beginS l p r z)) := by
 have hn : p.length < 2 ^ 63 := by have := hp.len; omega
 rw [g14_eq, s35 p hn, Option.bind_some, beginS]
 refine ite_goal (fun h1 => ?_) fun h1 => ?_
 ·rw [if_pos h1]; rfl
 rw [if_neg h1, s36 l hl z hz, Option.bind_some]
 refine ite_goal (fun h2 => ?_) fun h2 => ?_
 ·simp only [CQ] at h2
  have h2' : (reserve l z r.id.op).2 ≠ 0 := h2
  rw [if_pos h2']; rfl
 simp only [CQ] at h2
 have h2' : ¬ (reserve l z r.id.op).2 ≠ 0 := h2
 rw [if_neg h2', s37c38 p hn r, Option.bind_some]
 simp only [d2, d4, d8, d16]
 have hpos : posR p r ≤ p.length := fst_le _ p
 refine ite_goal (fun h3 => ?_) fun h3 => ?_
 ·have h4 : posR p r = p.length := by
   simp only [CQ, hitZ] at h3
   split at h3
   ·omega
   ·omega
  rw [s40 r.src (by omega), Option.bind_some, s42 p hp, Option.bind_some, List.length_map]
  have := ins_cells p r p.length (Nat.le_refl _) hp
  refine (congrArg (fun o => Option.bind o _) this).trans ?_
  rw [Option.bind_some, h4]
  rfl
 ·have h4 : posR p r < p.length := by
   by_cases h : posR p r < p.length
   ·exact h
   ·refine (h3 ?_).elim
    simp only [CQ, hitZ, if_neg h]
    omega
  rw [s40 r.src (by omega), Option.bind_some, s42 p hp, Option.bind_some, hitZ_lt h4]
  have := ins_cells p r (posR p r) hpos hp
  refine (congrArg (fun o => Option.bind o _) this).trans ?_
  rw [Option.bind_some]
  rfl
end Go.Proofs.YthdihcchfjlgkaaGreat
end

section
namespace Go.Proofs.YthdihcchfjlgkaaGreat
open Go Go.AM
set_option linter.unusedSimpArgs false
set_option linter.unusedVariables false
set_option maxRecDepth 100000
def relS (op : Int) (s : Slot) : Slot := if s.op = op then setOp 0 s else s
theorem rel_no {op : Int} {s : Slot} (h : ¬ s.op = op) : relS op s = s := if_neg h
theorem set_rel (op : Int) (l : List Slot) {i : Nat} (hi : i < l.length) (h : l[i].op = op) : setElem ((upto (relS op) l i).map slotc) i 11 [AV.val (.int .i64 0)] = (upto (relS op) l (i + 1)).map slotc := by
 rw [← upto_mod]
 refine set_cells slotc _ _ i 11 _ fun x hx => ?_
 rw [upto_get, List.getElem?_eq_getElem hi] at hx
 simp at hx
 subst hx
 unfold relS
 rw [if_pos h]
 rfl
theorem l47 (op : Int) (l : List Slot) (hn : l.length < 2 ^ 63) : g47L0 FUEL op (l.map slotc) (l.length : Int) 0 = some ((l.map (relS op)).map slotc) := by
 have := loop_to (F := fun k x i => g47L0 k op x (l.length : Int) i) (n := l.length) (fun i => (upto (relS op) l i).map slotc) (fin := some ((l.map (relS op)).map slotc)) hn
  (fun k i hil => by
   show g47L0 (k + 1) _ _ _ _ = _
   have hul : ((upto (relS op) l i).map slotc).length = l.length := by rw [List.length_map, upto_len]
   rw [g47L0_eq, if_pos (lss_t hil), hul]
   refine (reqK_pos (by omega) _).trans ?_
   refine (reqK_pos (by omega) _).trans ?_
   refine (elem_upto _ l hil _).trans ?_
   simp only [slotV, d2, d4, d8, d16]
   rw [inc_i hil hn]
   refine ite_goal (fun h1 => ?_) fun h1 => ?_
   ·simp only [CQ] at h1
    refine (reqK_pos (by omega) _).trans ?_
    refine (reqK_pos (by omega) _).trans ?_
    refine (reqK_pos (by omega) _).trans ?_
    refine (reqK_pos (by omega) _).trans ?_
    rw [Int.toNat_natCast, set_rel op l hil h1]
   ·simp only [CQ] at h1
    rw [upto_same (relS op) l hil (rel_no h1)])
  (fun k => by
   show g47L0 (k + 1) _ _ _ _ = _
   rw [g47L0_eq, if_neg (lss_f (Nat.le_refl _)), upto_all])
 simp only [upto_zero] at this
 exact this
theorem s47 (l : List Slot) (h : FewS l) (op : Int) : g47 (l.map slotc) op = some ((l.map (relS op)).map slotc) := by
 have hn : l.length < 2 ^ 63 := by have := h.len; omega
 rw [g47_eq, s43 l h, Option.bind_some, List.length_map]
 exact l47 op l hn
def takeS (s : Slot) : Slot := { s with node := noNode, lock := zid }
theorem set_take (l : List Slot) (i : Nat) : setElem (setElem (l.map slotc) i 0 (nodec noNode)) i 12 [I 0, I 0, I 0] = (l.modify i takeS).map slotc := by
 rw [set_node, set_cells slotc (fun s => { s with lock := zid }) (l.modify i (setN noNode)) i 12 _ fun _ _ => rfl]
 congr 1
 refine List.ext_getElem? fun j => ?_
 rw [List.getElem?_modify, List.getElem?_modify, List.getElem?_modify]
 cases l[j]? with
 | none => rfl
 | some x => by_cases h : i = j <;> simp [h, takeS, setN]
def delR (l : List Slot) (z : Int) (i : Id) : List Slot := if z < 0 ∨ (l.length : Int) ≤ z then l else match l[z.toNat]? with | some s => if emptyS s = false ∧ s.node.id = i then l.modify z.toNat takeS else l | none => l
theorem s82 (l : List Slot) (h : FewS l) (z : Int) (h0 : 0 ≤ z) (hz : z.toNat < l.length) (he : emptyS l[z.toNat] = false) : Ret (fun t => t.1 = (l.modify z.toNat takeS).map slotc ∧ t.2.1 = l[z.toNat].node.id.core ∧ t.2.2.1 = l[z.toNat].node.id.op ∧ t.2.2.2.1 = l[z.toNat].node.id.part ∧ d4 (d8 t) = true) (g82 (l.map slotc) z) := by
 have hlt : z < (List.length (l.map slotc) : Int) := by rw [List.length_map]; omega
 have hs : (List.length (setElem (l.map slotc) z.toNat 0 (nodec noNode)) : Int) = l.length := by rw [set_node, List.length_map, List.length_modify]
 rw [g82_eq]
 refine ret_eq (if_neg (by simp only [CQ]; omega)) (ret_eq (if_neg (by simp only [CQ, List.length_map]; omega)) ?_)
 refine ret_eq (elem_slot_at h0 hz _) ?_
 refine ret_bind_eq (s144 l[z.toNat]) ?_
 refine ret_eq (if_neg (by simp [he])) (ret_bind_eq (s43 l h) (ret_req h0 (ret_req hlt ?_)))
 refine ret_eq (elem_slot_at h0 hz _) (ret_req h0 (ret_req hlt (ret_req h0 (ret_req hlt (ret_req h0 (ret_req ?_ (ret_req h0 (ret_req ?_ ?_))))))))
 ·show z < (List.length (setElem (l.map slotc) z.toNat 0 (nodec noNode)) : Int)
  rw [hs]; omega
 ·show z < (List.length (setElem (l.map slotc) z.toNat 0 (nodec noNode)) : Int)
  rw [hs]; omega
 ·exact ret_some ⟨set_take l z.toNat, rfl, rfl, rfl, rfl⟩
theorem s82n (l : List Slot) (z : Int) (hz : z < 0 ∨ (l.length : Int) ≤ z ∨ ∃ s, l[z.toNat]? = some s ∧ emptyS s = true) : Ret (fun t => d4 (d8 t) = false) (g82 (l.map slotc) z) := by
 rw [g82_eq]
 refine ret_ite (fun _ => ret_some rfl) fun h1 => ret_ite (fun _ => ret_some rfl) fun h2 => ?_
 simp only [CQ, List.length_map] at h1 h2
 have hlt : z.toNat < l.length := by omega
 have he : emptyS l[z.toNat] = true := by
  rcases hz with h | h | ⟨s, hs, he⟩
  ·exact absurd h h1
  ·exact absurd h h2
  ·rw [List.getElem?_eq_getElem hlt] at hs; cases hs; exact he
 refine ret_eq (elem_slot_at (by omega) hlt _) ?_
 refine ret_bind_eq (s144 l[z.toNat]) ?_
 exact ret_eq (if_pos he) (ret_some rfl)
def putStep (d : Int) (l : List Slot) (i : Nat) (n : Node) : List Slot := if putErr l (iop .add .i64 d i) n = 0 then putL l (iop .add .i64 d i) n else l
def putAll (d : Int) (ns : List Node) (l : List Slot) (i : Nat) : List Slot := match ns with
 | [] => l
 | n :: r => putAll d r (putStep d l i n) (i + 1)
def applyR (l : List Slot) (r : Req) (ns : List Node) : List Slot := if r.call.kind = 1 ∨ r.call.kind = 2 ∨ r.call.kind = 3 then putAll r.call.dest ns l 0 else if r.call.kind = 5 then delR l r.call.slot r.src.id else l
theorem few_step {l : List Slot} (h : FewS l) (d : Int) (i : Nat) (n : Node) : FewS (putStep d l i n) := by
 unfold putStep
 split
 ·exact few_put h _ _
 ·exact h
theorem few_all (d : Int) : ∀ (ns : List Node) {l : List Slot} (h : FewS l) (i : Nat), FewS (putAll d ns l i)
 | [], _, h, _ => h
 | n :: r, _, h, i => few_all d r (few_step h d i n) (i + 1)
theorem few_app {l : List Slot} (h : FewS l) (r : Req) (ns : List Node) : FewS (applyR l r ns) := by
 unfold applyR
 split
 ·exact few_all _ ns h 0
 split
 ·unfold delR
  split
  ·exact h
  split
  ·split
   ·refine ⟨by rw [List.length_modify]; exact h.len, fun s hs => ?_⟩
    obtain ⟨i, hi, rfl⟩ := List.getElem_of_mem hs
    rw [List.getElem_modify]
    split
    ·simp [takeS, noNode]
    ·exact h.path _ (List.getElem_mem _)
   ·exact h
  ·exact h
 ·exact h
theorem l46 (r : Req) (ns : List Node) (hn : ns.length < 2 ^ 62) (hp : ∀ n ∈ ns, n.path.length < 2 ^ 63) : ∀ (j i fuel : Nat) (l : List Slot), i + j = ns.length → j < fuel → FewS l → g46L0 fuel (l.map slotc) r.id.core r.id.op r.id.part r.call.kind r.call.slot r.call.dest r.call.core r.call.mask r.call.object r.call.bits r.call.level r.call.offset r.call.count r.call.index r.call.addr r.region r.width r.src.id.core r.src.id.op r.src.id.part (idCells r.src.path) r.src.cap.kind r.src.cap.base r.src.cap.bits r.src.cap.rights r.src.cap.width r.src.cap.level r.src.cap.device (ns.map nodec) (ns.length : Int) (i : Int) = some ((putAll r.call.dest (ns.drop i) l i).map slotc) := by
 intro j
 induction j with
 | zero =>
  intro i fuel l h hf hl
  obtain ⟨q, rfl⟩ : ∃ q, fuel = q + 1 := ⟨fuel - 1, by omega⟩
  rw [g46L0_eq, if_neg (lss_f (by omega)), List.drop_eq_nil_of_le (by omega)]
  rfl
 | succ j ih =>
  intro i fuel l h hf hl
  obtain ⟨q, rfl⟩ : ∃ q, fuel = q + 1 := ⟨fuel - 1, by omega⟩
  have hi : i < ns.length := by omega
  rw [g46L0_eq, if_pos (lss_t hi)]
  refine (elem_nodes hi _).trans ?_
  simp only [nodeV, d2, d4, d8, d16]
  rw [s81 l hl _ ns[i] (hp _ (List.getElem_mem hi)), Option.bind_some, List.drop_eq_getElem_cons hi, putAll, putStep]
  refine ite_goal (fun h1 => ?_) fun h1 => ?_
  ·simp only [CQ] at h1
   rw [if_pos h1, inc_i hi (by omega)]
   exact ih (i + 1) q _ (by omega) (by omega) (few_put hl _ _)
  ·simp only [CQ] at h1
   rw [if_neg h1, inc_i hi (by omega)]
   exact ih (i + 1) q _ (by omega) (by omega) hl
theorem s46 (l : List Slot) (hl : FewS l) (r : Req) (ns : List Node) (hn : ns.length < 2 ^ 62) (hp : ∀ n ∈ ns, n.path.length < 2 ^ 63) : g46 (l.map slotc) r.id.core r.id.op r.id.part r.call.kind r.call.slot r.call.dest r.call.core r.call.mask r.call.object r.call.bits r.call.level r.call.offset r.call.count r.call.index r.call.addr r.region r.width r.src.id.core r.src.id.op r.src.id.part (idCells r.src.path) r.src.cap.kind r.src.cap.base r.src.cap.bits r.src.cap.rights r.src.cap.width r.src.cap.level r.src.cap.device (ns.map nodec) = some ((applyR l r ns).map slotc) := by
 have key : g46L0 FUEL (l.map slotc) r.id.core r.id.op r.id.part r.call.kind r.call.slot r.call.dest r.call.core r.call.mask r.call.object r.call.bits r.call.level r.call.offset r.call.count r.call.index r.call.addr r.region r.width r.src.id.core r.src.id.op r.src.id.part (idCells r.src.path) r.src.cap.kind r.src.cap.base r.src.cap.bits r.src.cap.rights r.src.cap.width r.src.cap.level r.src.cap.device (ns.map nodec) (ns.length : Int) 0 = some ((putAll r.call.dest ns l 0).map slotc) := l46 r ns hn hp ns.length 0 FUEL l (by omega) (by have := @fuel63 ns.length (by omega); omega) hl
 rw [g46_eq, List.length_map, applyR]
 refine ite_goal (fun h1 => ?_) fun h1 => ?_
 ·simp only [CQ] at h1
  rw [if_pos (.inl h1)]; exact key
 refine ite_goal (fun h2 => ?_) fun h2 => ?_
 ·simp only [CQ] at h2
  rw [if_pos (.inr (.inl h2))]; exact key
 refine ite_goal (fun h3 => ?_) fun h3 => ?_
 ·simp only [CQ] at h3
  rw [if_pos (.inr (.inr h3))]; exact key
 simp only [CQ] at h1 h2 h3
 rw [if_neg (show ¬ (r.call.kind = 1 ∨ r.call.kind = 2 ∨ r.call.kind = 3) by simp [h1, h2, h3])]
 refine ite_goal (fun h4 => ?_) fun h4 => ?_
 ·simp only [CQ] at h4
  rw [if_pos h4, delR]
  by_cases hz : r.call.slot < 0 ∨ (l.length : Int) ≤ r.call.slot
  ·obtain ⟨t, ht, hb⟩ := s82n l r.call.slot (hz.imp id .inl)
   rw [ht, Option.bind_some, hb, if_neg (by simp), if_pos hz]
  ·have hlt : r.call.slot.toNat < l.length := by omega
   rw [if_neg hz, List.getElem?_eq_getElem hlt]
   dsimp only
   by_cases he : emptyS l[r.call.slot.toNat] = true
   ·obtain ⟨t, ht, hb⟩ := s82n l r.call.slot (.inr (.inr ⟨_, List.getElem?_eq_getElem hlt, he⟩))
    rw [ht, Option.bind_some, hb, if_neg (by simp), if_neg (by simp [he])]
   ·have he' : emptyS l[r.call.slot.toNat] = false := by simpa using he
    obtain ⟨t, ht, k1, k2, k3, k4, k5⟩ := s82 l hl r.call.slot (by omega) hlt he'
    rw [ht, Option.bind_some, k5, if_pos rfl, k1, k2, k3, k4]
    refine ite_goal (fun h5 => ?_) fun h5 => ?_
    ·rw [id_eqb] at h5
     rw [if_pos ⟨he', h5⟩]
    ·rw [id_eqb] at h5
     rw [if_neg (fun h => h5 h.2)]
 ·simp only [CQ] at h4
  rw [if_neg h4]
structure FinR where
 slots : List Slot
 left : List Req
 msgs : List Msg
 ans : List Ans
 coms : List (Id × Bool)
def finc (r : FinR) : LL × LL × LL × LL × LL := (r.slots.map slotc, r.left.map reqc, r.msgs.map msgc, r.ans.map ansc, r.coms.map comc)
def ackM (m : Msg) : Msg := ⟨3, 0, 0, m.frm, 0, m.region, 0, m.op, 0, false, noReq, [], [], [], [], 0, noView, noState, noReport⟩
def fin (core : Int) (l : List Slot) (p : List Req) (m : Msg) : FinR :=
 if validB m = false ∨ m.kind ≠ 2 ∨ m.to ≠ core ∨ m.op.core ≠ core then ⟨l, p, [], [], []⟩
 else match p[fst' (idIs m.op) p]? with
 | none => ⟨l, p, [ackM m], [], []⟩
 | some r => ⟨(if m.err = 0 then applyR l r m.nodes else l).map (relS m.op.op), p.eraseIdx (fst' (idIs m.op) p), [ackM m], [⟨m.op.op, m.err⟩], if m.settled = false ∧ m.err ≠ 4 then [(m.op, true)] else []⟩
theorem fin_nodes {m : Msg} (hv : validB m = true) (hk : m.kind = 2) : m.nodes.length ≤ 8 := by
 simp only [validB, Bool.and_eq_true] at hv
 have h := hv.2.1
 rw [hk] at h
 simp only [show (2 : Int).toNat = 2 from rfl, kf, List.all_cons, fieldOk, Bool.and_eq_true, decide_eq_true_eq] at h
 exact h.2.2.2.2.1.1.1
theorem del_cells (p : List Req) (i : Nat) (hi : i < p.length) (h : Few p) : g45 (p.map reqc) (i : Int) (iop .add .i64 (i : Int) 1) = some ((p.eraseIdx i).map reqc) := by
 have hl := h.len
 rw [inc_i hi (by omega)]
 rw [g45_eq, gDel]
 refine (reqK_pos (by omega) _).trans ((reqK_pos (by omega) _).trans ((reqK_pos (by rw [List.length_map]; omega) _).trans ?_))
 rw [take_reqs, drop_reqs, ← List.map_append, ← List.eraseIdx_eq_take_drop_succ]
theorem s16 (core : Int) (l : List Slot) (hl : FewS l) (p : List Req) (hp : Few p) (m : Msg) (hm : m.Fits) : g16 core (l.map slotc) (p.map reqc) m.kind m.view m.frm m.to m.round m.region m.slot m.op.core m.op.op m.op.part m.err m.settled m.req.id.core m.req.id.op m.req.id.part m.req.call.kind m.req.call.slot m.req.call.dest m.req.call.core m.req.call.mask m.req.call.object m.req.call.bits m.req.call.level m.req.call.offset m.req.call.count m.req.call.index m.req.call.addr m.req.region m.req.width m.req.src.id.core m.req.src.id.op m.req.src.id.part (idCells m.req.src.path) m.req.src.cap.kind m.req.src.cap.base m.req.src.cap.bits m.req.src.cap.rights m.req.src.cap.width m.req.src.cap.level m.req.src.cap.device (idCells m.ids) (m.nodes.map nodec) (intCells m.cores) (m.moves.map movec) m.base m.next.number (intCells m.next.members) (intCells m.next.owners) (m.state.slots.map slotc) (m.state.pending.map reqc) (m.state.marks.map markc) (m.state.answers.map ansc) (m.state.entries.map entryc) (idCells m.state.commits) m.report.core m.report.view.number (intCells m.report.view.members) (intCells m.report.view.owners) (m.report.state.slots.map slotc) (m.report.state.pending.map reqc) (m.report.state.marks.map markc) (m.report.state.answers.map ansc) (m.report.state.entries.map entryc) (idCells m.report.state.commits) m.report.ready m.report.next.number (intCells m.report.next.members) (intCells m.report.next.owners) (m.report.proposal.slots.map slotc) (m.report.proposal.pending.map reqc) (m.report.proposal.marks.map markc) (m.report.proposal.answers.map ansc) (m.report.proposal.entries.map entryc) (idCells m.report.proposal.commits) = some (finc (fin core l p m)) := by
 have hpl := hp.len
 rw [g16_eq, s43 l hl, Option.bind_some, s42 p hp, Option.bind_some, s44 m hm, Option.bind_some, fin]
 refine ite_goal (fun h1 => ?_) fun h1 => ?_
 ·rw [if_pos (.inl (by simpa using h1))]; rfl
 have hv : validB m = true := by simpa using h1
 refine ite_goal (fun h2 => ?_) fun h2 => ?_
 ·simp only [CQ] at h2
  rw [if_pos (.inr (.inl h2))]; rfl
 refine ite_goal (fun h3 => ?_) fun h3 => ?_
 ·simp only [CQ] at h3
  rw [if_pos (.inr (.inr (.inl h3)))]; rfl
 refine ite_goal (fun h4 => ?_) fun h4 => ?_
 ·simp only [CQ] at h4
  rw [if_pos (.inr (.inr (.inr h4)))]; rfl
 simp only [CQ, Decidable.not_not] at h2 h3 h4
 rw [if_neg (by simp [hv, h2, h3, h4]), s35 p (by omega) m.op, Option.bind_some]
 dsimp only
 have hle := fst_le (idIs m.op) p
 generalize hq : fst' (idIs m.op) p = q at hle
 refine ite_goal (fun h5 => ?_) fun h5 => ?_
 ·rw [Bool.not_eq_true', idIn, hq, decide_eq_false_iff_not] at h5
  rw [List.getElem?_eq_none (by omega)]
  rfl
 rw [Bool.not_eq_true', idIn, hq, Bool.not_eq_false, decide_eq_true_eq] at h5
 rw [List.getElem?_eq_getElem h5, hitZ_lt h5]
 refine (reqK_pos (by omega) _).trans ((reqK_pos (by rw [List.length_map]; omega) _).trans ?_)
 refine (elem_reqs h5 _).trans ?_
 simp only [reqV, d2, d4, d8, d16]
 rw [del_cells p q h5 hp, Option.bind_some]
 have hnl := fin_nodes hv h2
 refine ite_goal (fun h6 => ?_) fun h6 => ?_
 ·simp only [CQ] at h6
  rw [s46 l hl p[q] m.nodes (by omega) hm.node, Option.bind_some, s47 _ (few_app hl p[q] m.nodes), Option.bind_some, if_pos h6]
  refine ite_goal (fun h7 => ?_) fun h7 => ?_
  ·refine ite_goal (fun h8 => ?_) fun h8 => ?_
   ·simp only [CQ] at h8
    rw [if_pos ⟨by simpa using h7, h8⟩]; rfl
   ·simp only [CQ] at h8
    rw [if_neg (fun h => h8 h.2)]; rfl
  ·rw [if_neg (fun h => h7 (by simp [h.1]))]; rfl
 ·simp only [CQ] at h6
  rw [s47 l hl, Option.bind_some, if_neg h6]
  refine ite_goal (fun h7 => ?_) fun h7 => ?_
  ·refine ite_goal (fun h8 => ?_) fun h8 => ?_
   ·simp only [CQ] at h8
    rw [if_pos ⟨by simpa using h7, h8⟩]; rfl
   ·simp only [CQ] at h8
    rw [if_neg (fun h => h8 h.2)]; rfl
  ·rw [if_neg (fun h => h7 (by simp [h.1]))]; rfl
end Go.Proofs.YthdihcchfjlgkaaGreat
end

section
namespace Go.Proofs.YthdihcchfjlgkaaGreat
open Go Go.AM
set_option linter.unusedSimpArgs false
set_option linter.unusedVariables false
set_option maxRecDepth 100000
theorem ne_tt {b : Bool} (h : b = false) : ¬ b = true := by simp [h]
theorem eql_t {a b : Int} (h : a = b) : cop .eql a b = true := by simp only [CQ]; exact h
theorem s6 : g6 = some true := by kernel_rfl
theorem aw_ok : Ret (fun r => r = true) ((g6).bind fun (r : Bool) => some (r)) := ret_bind_eq s6 (ret_some rfl)
theorem same_slots (l : List Slot) (h : FewS l) : g18 (l.map slotc) (l.map slotc) = some true := by
 have h1 := h.len
 rw [s18 l l (by omega) (fun x hx => by have := h.path x hx; omega) (fun x hx => by have := h.path x hx; omega), sameL_refl sameS (fun a => by simp [sameS, sameN_refl])]
def U (g : Nat → Slot → Slot) (d : Nat) : Nat → List Slot → List Slot
 | 0, l => l
 | i + 1, l => (U g d i l).modify (d + i) (g i)
theorem U_get (g : Nat → Slot → Slot) (d : Nat) (l : List Slot) (j : Nat) : ∀ n, (U g d n l)[j]? = (l[j]?).map (if d ≤ j ∧ j < d + n then g (j - d) else id)
 | 0 => by rw [if_neg (by omega), U]; simp
 | n + 1 => by
  rw [U, List.getElem?_modify, U_get g d l j n]
  cases l[j]? with
  | none => simp
  | some x =>
   by_cases h : d + n = j
   ·subst h
    have e : d + n - d = n := by omega
    simp [e]
   ·by_cases h2 : d ≤ j ∧ j < d + n
    ·simp [h, h2, show d ≤ j ∧ j < d + (n + 1) by omega]
    ·simp [h, h2, show ¬ (d ≤ j ∧ j < d + (n + 1)) by omega]
theorem U_len (g : Nat → Slot → Slot) (d : Nat) (l : List Slot) : ∀ n, (U g d n l).length = l.length
 | 0 => rfl
 | n + 1 => by rw [U, List.length_modify, U_len g d l n]
def ndC (c : Int) (i : Nat) : Node := ⟨⟨c, 50, i⟩, [⟨7, 1, 0⟩], ⟨2, (i : Int) * 4096, 12, 7, 0, 0, false⟩⟩
theorem ndC_ok {c : Int} (hc : 0 ≤ c ∧ c < 4) {i : Nat} (hi : i < 3) : nodeOk (ndC c i) = true := by
 have h1 : idOk ⟨c, 50, i⟩ = true := by simp [idOk]; omega
 have h2 : capOk ⟨2, (i : Int) * 4096, 12, 7, 0, 0, false⟩ = true := by
  rcases (by omega : i = 0 ∨ i = 1 ∨ i = 2) with rfl | rfl | rfl <;> kernel_rfl
 have h3 : ((List.range 1).all (pathAt (ndC c i))) = true := by
  simp only [show List.range 1 = [0] from rfl, List.all_cons, List.all_nil, Bool.and_true, pathAt, ndC, List.getElem?_cons_zero, List.take_zero]
  have : (⟨7, 1, 0⟩ : Id) ≠ ⟨c, 50, i⟩ := fun h => by have := congrArg Id.op h; exact absurd this (by show (1 : Int) ≠ 50; decide)
  simp [this, idOk]
 simp only [nodeOk, Bool.and_eq_true, decide_eq_true_eq]
 exact ⟨⟨⟨h1, h2⟩, by simp [ndC]⟩, h3⟩
def reqC (c : Int) (d n : Nat) : Req := ⟨⟨c, 50, 0⟩, ⟨2, 0, (d : Int), 0, 0, 0, 0, 0, 0, (n : Int), 0, 0⟩, 0, 32, ⟨⟨7, 1, 0⟩, [], ⟨1, 0, 16, 7, 0, 0, false⟩⟩⟩
def mDone (c : Int) (e : Int) (ns : List Node) : Msg := ⟨2, 0, 3, c, 0, 0, 0, ⟨c, 50, 0⟩, e, false, noReq, [], ns, [], [], 0, noView, noState, noReport⟩
theorem mDone_fits (c e : Int) (ns : List Node) (h : ns.length ≤ 8) (hp : ∀ n ∈ ns, n.path.length ≤ 20) : (mDone c e ns).Fits := ⟨by simp [mDone, noReq, noNode], by simp [mDone], by show ns.length < _; omega, fun x hx => by have := hp x hx; omega, by simp [mDone], by simp [mDone], no_vw.fits, no_st.fits, no_rp.fits⟩
theorem mDone_ok {c e : Int} (hc : 0 ≤ c ∧ c < 4) (he : 0 ≤ e ∧ e ≤ 12) {ns : List Node} (h : ns.length ≤ 8) (hn : ∀ n ∈ ns, nodeOk n = true) : validB (mDone c e ns) = true := by
 have e1 : opOk ⟨c, 50, 0⟩ = true := by simp [opOk, idOk]; omega
 have e2 : errOk e = true := by simp only [errOk, decide_eq_true_eq]; omega
 refine valid_of (mDone c e ns) 2 rfl (by decide) (by decide) ⟨Int.le_refl _, show (0 : Int) < 70 by decide⟩ ⟨show (0 : Int) ≤ 3 by decide, show (3 : Int) < 4 by decide⟩ hc ?_ (by kernel_rfl)
 show (regOk 0 && (opOk ⟨c, 50, 0⟩ && (errOk e && (true && ((decide (ns.length ≤ 8) && (decide ((2 : Int) ≠ 4) || decide (ns.length = 1)) && ns.all nodeOk) && true))))) = true
 rw [e1, e2, List.all_eq_true.2 hn]
 simp [regOk, h]
def resv (d : Nat) (n : Nat) : List Int := (List.range n).map fun (i : Nat) => ((d + i : Nat) : Int)
def setP (_ : Nat) (s : Slot) : Slot := setOp 50 s
theorem rsv_go {l : List Slot} {d : Nat} : ∀ (n i : Nat) (acc : List Slot), d + i + n ≤ l.length → (∀ j (h : j < l.length), busyS l[j] = false) → acc = U setP d i l →
  rsv l 50 ((List.range' i n).map fun (i : Nat) => ((d + i : Nat) : Int)) acc = some (U setP d (i + n) l)
 | 0, i, acc, _, _, ha => by rw [ha]; rfl
 | n + 1, i, acc, h, hb, ha => by
  rw [List.range'_succ, List.map_cons, rsv, Int.toNat_natCast, List.getElem?_eq_getElem (show d + i < l.length by omega)]
  dsimp only
  rw [hb _ (show d + i < l.length by omega)]
  dsimp only
  rw [rsv_go n (i + 1) (acc.modify (d + i) (setOp 50)) (by omega) hb (by rw [ha]; rfl), show i + 1 + n = i + (n + 1) by omega]
theorem resv_ok {d n len : Nat} (h : d + n ≤ len) : (List.range' 0 (resv d n).length).all (okAt len (resv d n)) = true := by
 rw [List.all_eq_true]
 intro i hi
 rw [List.mem_range'_1] at hi
 have hl : (resv d n).length = n := by simp [resv]
 have hin : i < (resv d n).length := by omega
 have hat : ∀ j (h : j < (resv d n).length), (resv d n)[j] = ((d + j : Nat) : Int) := fun j h => by simp [resv]
 unfold okAt
 rw [List.getElem?_eq_getElem hin, hat i hin]
 show (decide (0 ≤ ((d + i : Nat) : Int)) && (decide (((d + i : Nat) : Int) < (len : Int)) && !(((resv d n).take i).any fun x => decide (((d + i : Nat) : Int) = x)))) = true
 rw [decide_eq_true (by omega), decide_eq_true (by omega), Bool.true_and, Bool.true_and, Bool.not_eq_true', List.any_eq_false]
 intro x hx
 obtain ⟨j, hj, rfl⟩ := List.getElem_of_mem hx
 rw [List.length_take] at hj
 rw [List.getElem_take, hat j (by omega), decide_eq_true_eq]
 omega
theorem begin_is {S : List Slot} {c : Int} {d n : Nat} (h : d + n ≤ S.length) (hb : ∀ j (h : j < S.length), busyS S[j] = false) : beginS S [] (reqC c d n) (resv d n) = (U setP d n S, [reqC c d n], 0) := by
 have e1 : reserve S (resv d n) 50 = (U setP d n S, 0) := by
  rw [reserve, if_neg (by decide), if_pos (resv_ok h), rsv2]
  have := rsv_go n 0 S (by omega) hb rfl
  rw [Nat.zero_add, ← List.range_eq_range'] at this
  rw [show resv d n = (List.range n).map fun (i : Nat) => ((d + i : Nat) : Int) from rfl, this]
 rw [beginS, if_neg (by simp [idIn])]
 show (if (reserve S (resv d n) 50).2 ≠ 0 then _ else ((reserve S (resv d n) 50).1, insR [] (reqC c d n) (posR [] (reqC c d n)), (0 : Int))) = _
 rw [e1]
 rfl
def putN (c : Int) (i : Nat) (s : Slot) : Slot := setN (ndC c i) s
theorem put_go {S : List Slot} {c : Int} (hc : 0 ≤ c ∧ c < 4) {d : Nat} (hlen : S.length = 12) (hids : ∀ j (h : j < S.length), S[j].node.id.op ≠ 50) (m : Nat) (hm : d + m ≤ 12) (hm3 : m ≤ 3) (he : ∀ i, i < m → ∀ h : d + i < S.length, emptyS S[d + i] = true) :
  ∀ (n i : Nat), i + n = m → putAll (d : Int) ((List.range' i n).map (ndC c)) (U (putN c) d i (U setP d m S)) i = U (putN c) d m (U setP d m S)
 | 0, i, h => by
  have : i = m := by omega
  subst this; rfl
 | n + 1, i, h => by
  rw [List.range'_succ, List.map_cons, putAll]
  have hal : iop .add .i64 (d : Int) (i : Int) = ((d + i : Nat) : Int) := by rw [add_i (by omega) (by omega)]; omega
  have hlen2 : (U (putN c) d i (U setP d m S)).length = 12 := by rw [U_len, U_len]; exact hlen
  have hget : ∀ j (hj : j < 12), (U (putN c) d i (U setP d m S))[j]? = some ((if d ≤ j ∧ j < d + i then putN c (j - d) else id) ((if d ≤ j ∧ j < d + m then setP (j - d) else id) (S[j]'(by omega)))) := by
   intro j hj
   rw [U_get, U_get, List.getElem?_eq_getElem (show j < S.length by omega)]
   rfl
  have hput : putErr (U (putN c) d i (U setP d m S)) ((d + i : Nat) : Int) (ndC c i) = 0 := by
   have hany : (U (putN c) d i (U setP d m S)).any (hitS (ndC c i).id) = false := by
    rw [List.any_eq_false]
    intro a ha
    obtain ⟨j, hj, rfl⟩ := List.getElem_of_mem ha
    have hg := hget j (by omega)
    rw [List.getElem?_eq_getElem hj] at hg
    have hg' := Option.some.inj hg
    rw [hg', hitS, Bool.not_eq_true, Bool.and_eq_false_iff]
    right
    rw [decide_eq_false_iff_not]
    intro hh
    have hS := hids j (by omega)
    split at hh
    ·rename_i h1
     have hp := congrArg Id.part hh
     have hp2 : ((j - d : Nat) : Int) = (i : Int) := hp
     omega
    ·have hop := congrArg Id.op hh
     apply hS
     split at hop <;> exact hop
   rw [putErr, if_neg, if_neg]
   ·rw [Int.toNat_natCast, hget (d + i) (by omega), if_neg (by omega)]
    have := he i (by omega) (by omega)
    split <;> simpa [setP, setOp, emptyS] using this
   ·rw [ndC_ok hc (show i < 3 by omega), hany, hlen2]
    simp only [Bool.true_eq_false, Bool.false_eq_true, or_false]
    omega
  have hstep : putStep (d : Int) (U (putN c) d i (U setP d m S)) i (ndC c i) = U (putN c) d (i + 1) (U setP d m S) := by
   rw [putStep, hal, if_pos hput, putL, if_pos hput, Int.toNat_natCast]
   rfl
  rw [hstep]
  exact put_go hc hlen hids m hm hm3 he n (i + 1) (by omega)
theorem rel_set {S : List Slot} (ho : ∀ j (h : j < S.length), S[j].op = 0) (d n : Nat) : (U setP d n S).map (relS 50) = S := by
 refine List.ext_getElem? fun j => ?_
 rw [List.getElem?_map, U_get]
 by_cases hj : j < S.length
 ·rw [List.getElem?_eq_getElem hj]
  have h0 := ho j hj
  split
  ·simp only [Option.map_some]
   congr 1
   show relS 50 (setOp 50 S[j]) = S[j]
   rw [relS, if_pos (show (setOp 50 S[j]).op = 50 from rfl)]
   show ({ S[j] with op := 0 } : Slot) = S[j]
   rw [← h0]
  ·simp only [Option.map_some, id]
   rw [rel_no (by rw [h0]; decide)]
 ·rw [List.getElem?_eq_none (by omega)]; rfl
theorem rel_put {S : List Slot} {c : Int} (ho : ∀ j (h : j < S.length), S[j].op = 0) (d n : Nat) : (U (putN c) d n (U setP d n S)).map (relS 50) = U (putN c) d n S := by
 refine List.ext_getElem? fun j => ?_
 rw [List.getElem?_map, U_get, U_get, U_get]
 by_cases hj : j < S.length
 ·rw [List.getElem?_eq_getElem hj]
  have h0 := ho j hj
  split
  ·simp only [Option.map_some]
   congr 1
   show relS 50 (setN (ndC c (j - d)) (setOp 50 S[j])) = setN (ndC c (j - d)) S[j]
   rw [relS, if_pos (show (setN (ndC c (j - d)) (setOp 50 S[j])).op = 50 from rfl)]
   show ({ node := ndC c (j - d), op := 0, lock := S[j].lock } : Slot) = { node := ndC c (j - d), op := S[j].op, lock := S[j].lock }
   rw [h0]
  ·simp only [Option.map_some, id]
   rw [rel_no (by rw [h0]; decide)]
 ·rw [List.getElem?_eq_none (by omega)]; rfl
theorem few_U {S : List Slot} (h : FewS S) (g : Nat → Slot → Slot) (hg : ∀ i s, s.node.path.length ≤ 20 → (g i s).node.path.length ≤ 20) (d n : Nat) : FewS (U g d n S) := by
 refine ⟨by rw [U_len]; exact h.len, fun s hs => ?_⟩
 obtain ⟨j, hj, rfl⟩ := List.getElem_of_mem hs
 have hl := U_len g d S n
 have := U_get g d S j n
 rw [List.getElem?_eq_getElem hj, List.getElem?_eq_getElem (show j < S.length by omega)] at this
 have e := Option.some.inj this
 rw [e]
 have hp := h.path _ (List.getElem_mem (show j < S.length by omega))
 split
 ·exact hg _ _ hp
 ·exact hp
theorem fin_bad {S : List Slot} {c e : Int} {d n : Nat} (hc : 0 ≤ c ∧ c < 4) (he : 1 ≤ e ∧ e ≤ 12) : fin c (U setP d n S) [reqC c d n] (mDone c e []) = ⟨(U setP d n S).map (relS 50), [], [ackM (mDone c e [])], [⟨50, e⟩], if e ≠ 4 then [(⟨c, 50, 0⟩, true)] else []⟩ := by
 have hf : fst' (idIs (mDone c e []).op) [reqC c d n] = 0 := by
  show fst' (idIs ⟨c, 50, 0⟩) [reqC c d n] = 0
  simp [fst', idIs, reqC]
 rw [fin, if_neg (by rw [mDone_ok hc (by omega) (by simp) (by simp)]; simp [mDone]), hf]
 show FinR.mk _ _ _ _ _ = _
 rw [if_neg (show ¬ (mDone c e []).err = 0 by show ¬ e = 0; omega)]
 show FinR.mk ((U setP d n S).map (relS 50)) [] [ackM (mDone c e [])] [⟨50, e⟩] (if (false = false ∧ e ≠ 4) then [((⟨c, 50, 0⟩ : Id), true)] else []) = _
 simp
theorem fin_good {S : List Slot} {c : Int} {d n : Nat} (hc : 0 ≤ c ∧ c < 4) (hlen : S.length = 12) (hids : ∀ j (h : j < S.length), S[j].node.id.op ≠ 50) (hm : d + n ≤ 12) (hm3 : n ≤ 3) (he : ∀ i, i < n → ∀ h : d + i < S.length, emptyS S[d + i] = true) (ho : ∀ j (h : j < S.length), S[j].op = 0) :
  (fin c (U setP d n S) [reqC c d n] (mDone c 0 ((List.range n).map (ndC c)))).slots = U (putN c) d n S ∧ (fin c (U setP d n S) [reqC c d n] (mDone c 0 ((List.range n).map (ndC c)))).left = [] := by
 have hf : fst' (idIs (mDone c 0 ((List.range n).map (ndC c))).op) [reqC c d n] = 0 := by
  show fst' (idIs ⟨c, 50, 0⟩) [reqC c d n] = 0
  simp [fst', idIs, reqC]
 have hv : validB (mDone c 0 ((List.range n).map (ndC c))) = true := mDone_ok hc (by omega) (by simp; omega) fun x hx => by
  obtain ⟨i, hi, rfl⟩ := List.mem_map.1 hx
  rw [List.mem_range] at hi
  exact ndC_ok hc (by omega)
 rw [fin, if_neg (by rw [hv]; simp [mDone]), hf]
 refine ⟨?_, rfl⟩
 show ((if (0 : Int) = 0 then applyR (U setP d n S) (reqC c d n) ((List.range n).map (ndC c)) else _).map (relS 50)) = _
 rw [if_pos rfl, applyR, if_pos (.inr (.inl rfl))]
 have := put_go hc hlen hids n hm hm3 he n 0 (by omega)
 rw [← List.range_eq_range'] at this
 show (putAll (d : Int) ((List.range n).map (ndC c)) (U setP d n S) 0).map (relS 50) = _
 rw [show U setP d n S = U (putN c) d 0 (U setP d n S) from rfl, this, rel_put ho]
theorem l4_0 {c : Int} {S : List Slot} (fS : FewS S) (hlen : S.length = 12) {d n : Nat} (hm : d + n ≤ 12) (hm3 : n ≤ 3) : g4L0 FUEL (n : Int) (d : Int) (((List.range n).map (ndC c)).map nodec) ((U (putN c) d n S).map slotc) ([] : LL) (S.map slotc) 0 = some true := by
 have := loop_to (F := fun k x i => g4L0 k (n : Int) (d : Int) (((List.range n).map (ndC c)).map nodec) ((U (putN c) d n S).map slotc) ([] : LL) x i) (n := n) (fun i => (U (putN c) d i S).map slotc) (fin := some true) (by omega)
  (fun k i hi => by
   show g4L0 (k + 1) _ _ _ _ _ _ _ = _
   rw [g4L0_eq, if_pos (lss_t hi)]
   have hil : i < ((List.range n).map (ndC c)).length := by simpa using hi
   have hal : iop .add .i64 (d : Int) (i : Int) = ((d + i : Nat) : Int) := by rw [add_i (by omega) (by omega)]; omega
   refine (elem_nodes hil _).trans ?_
   rw [List.getElem_map, List.getElem_range, hal, inc_i hi (by omega)]
   have hul : ((U (putN c) d i S).map slotc).length = 12 := by rw [List.length_map, U_len]; exact hlen
   rw [hul]
   refine (reqK_pos (by omega) _).trans ((reqK_pos (by omega) _).trans ((reqK_pos (by omega) _).trans ((reqK_pos (by omega) _).trans ?_)))
   rw [Int.toNat_natCast]
   have hs := set_node (U (putN c) d i S) (d + i) (ndC c i)
   exact congrArg (fun x => g4L0 k (n : Int) (d : Int) (((List.range n).map (ndC c)).map nodec) ((U (putN c) d n S).map slotc) ([] : LL) x ((i + 1 : Nat) : Int)) hs)
  (fun k => by
   show g4L0 (k + 1) _ _ _ _ _ _ _ = _
   rw [g4L0_eq, if_neg (lss_f (Nat.le_refl _))]
   refine (if_pos (eql_t rfl)).trans ?_
   rw [same_slots _ (few_U fS _ (fun i s _ => by simp [putN, setN, ndC]) d n), Option.bind_some]
   refine (if_pos rfl).trans ?_
   rw [s6]; rfl)
 exact this
theorem s4 (sts : List Step) (hs : sts.length < 2 ^ 63) (core dest count err : Int) : g4 (sts.map stepc) core dest count err = some true := by
 have key : Ret (fun r => r = true) (g4 (sts.map stepc) core dest count err) := by
  rw [g4_eq]
  refine ret_bind (place core 4 (by omega) (by omega)) fun c hc => ?_
  refine ret_bind (s7 sts hs) fun r ⟨f, hf, hr⟩ => ?_
  subst hr
  refine ret_bind (s12 f 30 (by omega) hf c) fun r ⟨S, hS, hr⟩ => ?_
  subst hr
  refine ret_bind (place count 3 (by omega) (by omega)) fun y hy => ?_
  obtain ⟨n, hn⟩ : ∃ n : Nat, (n : Int) = 1 + y := ⟨(1 + y).toNat, by omega⟩
  have e1 : iop .add .i64 1 y = (n : Int) := by rw [add_i (by omega) (by omega), hn]
  have e2 : iop .sub .i64 12 (n : Int) = 12 - n := sub_i (by omega) (by omega)
  rw [e1, e2]
  refine ret_bind (place dest (12 - n) (by omega) (by omega)) fun d0 hd0 => ?_
  obtain ⟨d, hd⟩ : ∃ d : Nat, (d : Int) = d0 := ⟨d0.toNat, by omega⟩
  subst hd
  have fS := hS.few hf
  have hlen := hS.len
  have hm : d + n ≤ 12 := by omega
  have hm3 : n ≤ 3 := by omega
  have ho : ∀ j (h : j < S.length), S[j].op = 0 := fun j h => (hS.spot j h).1
  have hbu : ∀ j (h : j < S.length), busyS S[j] = false := fun j h => by
   have h1 := (hS.spot j h).1
   have h2 := (hS.spot j h).2.1
   simp [busyS, h1, h2, cop, zid]
  have hids : ∀ j (h : j < S.length), S[j].node.id.op ≠ 50 := fun j h he => by
   rcases (hS.spot j h).2.2 with e | ⟨e, he', _, hne⟩
   ·rw [e] at he; exact absurd he (by decide)
   ·rw [hne] at he
    have := (hf.all e he').o2
    omega
  refine ret_turns (F := fun k (s : LL × LL) z => g4L1 k err c (S.map slotc) (n : Int) (d : Int) c 50 0 2 0 (d : Int) 0 0 0 0 0 0 (n : Int) 0 0 0 32 7 1 0 ([] : LL) 1 0 16 7 0 0 false s.1 s.2 z) n (fun i s => s = (intCells (resv d i), ((List.range i).map (ndC c)).map nodec) ∧ ∀ j, j < i → ∀ h : d + j < S.length, emptyS S[d + j] = true) (by omega) (fun k i s hi hj ih => ?_) (([] : LL), ([] : LL)) ⟨rfl, fun j h => absurd h (Nat.not_lt_zero _)⟩
  obtain ⟨rfl, hemp⟩ := hj
  show Ret _ (g4L1 (k + 1) err c (S.map slotc) (n : Int) (d : Int) c 50 0 2 0 (d : Int) 0 0 0 0 0 0 (n : Int) 0 0 0 32 7 1 0 ([] : LL) 1 0 16 7 0 0 false (intCells (resv d i)) (((List.range i).map (ndC c)).map nodec) (i : Int))
  refine ret_eq (g4L1_eq ..) ?_
  refine ret_ite (fun h1 => ?_) fun h1 => ?_
  ·simp only [CQ] at h1
   have hin : i < n := by omega
   have hal : iop .add .i64 (d : Int) (i : Int) = ((d + i : Nat) : Int) := by rw [add_i (by omega) (by omega)]; omega
   have hdi : d + i < S.length := by omega
   rw [hal]
   refine ret_req (by omega) (ret_req (by rw [List.length_map]; omega) ?_)
   refine ret_eq (elem_slots hdi _) ?_
   refine ret_bind_eq (s13 S[d + i]) ?_
   refine ret_ite (fun _ => aw_ok) fun h2 => ?_
   have h2' : emptyS S[d + i] = true := by simpa using h2
   have hsh : iop .shl .i64 (i : Int) 12 = (i : Int) * 4096 := shl_i (by omega) (by omega) (by omega) (by show (i : Int) * 2 ^ 12 < 2 ^ 63; omega)
   rw [hsh, inc_n hi (by omega)]
   refine ret_req (room_small (by simp [resv, intCells]; omega) (by omega)) (ret_req (by omega) (ret_req (room_small (by simp; omega) (by omega)) ?_))
   refine ih hin (intCells (resv d i) ++ (([] : LL) ++ [[I ((d + i : Nat) : Int)]]), ((List.range i).map (ndC c)).map nodec ++ (([] : LL) ++ [nodec (ndC c i)])) ⟨?_, fun j hj h => ?_⟩
   ·rw [List.range_succ]
    simp [resv, intCells, i64c, List.range_succ]
   ·by_cases hji : j = i
    ·subst hji; exact h2'
    ·exact hemp j (by omega) h
  ·simp only [CQ] at h1
   have hin : i = n := by omega
   subst hin
   refine ret_bind_eq (s15 S fS) ?_
   have hresl : (resv d i).length ≤ 4096 := by simp [resv]; omega
   have hb := s14 S fS [] ⟨by simp, by simp⟩ (reqC c d i) (by simp [reqC]) (resv d i) hresl
   rw [begin_is (by omega) hbu] at hb
   refine ret_bind_eq hb ?_
   refine ret_eq (if_neg (neq_f rfl)) (ret_eq (if_neg (neq_f rfl)) ?_)
   refine ret_bind (place err 12 (by omega) (by omega)) fun b0 hb0 => ?_
   obtain ⟨e, he⟩ : ∃ e, e = 1 + b0 := ⟨_, rfl⟩
   have ee : iop .add .i64 1 b0 = e := by rw [add_i (by omega) (by omega), he]
   rw [ee]
   have hee : 1 ≤ e ∧ e ≤ 12 := by omega
   have fA : FewS (U setP d i S) := few_U fS setP (fun _ s h => h) d i
   have fR : Few [reqC c d i] := ⟨by simp, by intro r hr; rw [List.mem_singleton] at hr; subst hr; simp [reqC]⟩
   refine ret_bind_eq (s15 _ fA) ?_
   refine ret_bind_eq (s17 _ fR) ?_
   have h16 := s16 c (U setP d i S) fA [reqC c d i] fR (mDone c e []) (mDone_fits c e [] (by simp) (by simp))
   rw [fin_bad hc hee, rel_set ho] at h16
   refine ret_bind_eq h16 ?_
   refine ret_bind_eq (same_slots S fS) ?_
   refine ret_eq (if_neg (by simp)) (ret_eq (if_neg (neq_f rfl)) (ret_eq (if_neg (neq_f rfl)) ?_))
   refine ret_eq (elem_msgs (l := [ackM (mDone c e [])]) (i := 0) (by simp) _) ?_
   refine ret_eq (if_neg (neq_f rfl)) ?_
   refine ret_eq (elem_msgs (l := [ackM (mDone c e [])]) (i := 0) (by simp) _) ?_
   refine ret_eq (if_neg (neq_f rfl)) (ret_eq (if_neg (neq_f rfl)) ?_)
   refine ret_eq (elem_anss (l := [⟨50, e⟩]) (i := 0) (by simp) _) ?_
   refine ret_eq (if_neg (by simp [cop])) ?_
   refine ret_eq (if_neg ?_) ?_
   ·by_cases h4 : e = 4
    ·subst h4
     rw [if_neg (by decide)]
     exact ne_tt rfl
    ·rw [if_pos h4]
     simp [cop, finc, h4]
   refine ret_bind_eq (s15 _ fA) ?_
   refine ret_bind_eq (s17 _ fR) ?_
   have hpn : ∀ x ∈ (List.range i).map (ndC c), x.path.length ≤ 20 := fun x hx => by
    obtain ⟨j, hj, rfl⟩ := List.mem_map.1 hx
    simp [ndC]
   have h16 := s16 c (U setP d i S) fA [reqC c d i] fR (mDone c 0 ((List.range i).map (ndC c))) (mDone_fits c 0 _ (by simp; omega) hpn)
   obtain ⟨g1, g2⟩ := fin_good (S := S) (d := d) (n := i) hc hlen hids hm hm3 hemp ho
   generalize fin c (U setP d i S) [reqC c d i] (mDone c 0 ((List.range i).map (ndC c))) = F at h16 g1 g2
   obtain ⟨F1, F2, F3, F4, F5⟩ := F
   dsimp only at g1 g2
   subst g1 g2
   refine ret_bind_eq h16 ?_
   refine ret_bind_eq (s15 S fS) ?_
   exact ⟨true, l4_0 fS hlen hm hm3, rfl⟩
 obtain ⟨r, e, rfl⟩ := key
 exact e
end Go.Proofs.YthdihcchfjlgkaaGreat
end

section
namespace Go.Proofs.YthdihcchfjlgkaaGreat
open Go Go.AM
set_option linter.unusedSimpArgs false
set_option linter.unusedVariables false
set_option maxRecDepth 100000
end Go.Proofs.YthdihcchfjlgkaaGreat
end
