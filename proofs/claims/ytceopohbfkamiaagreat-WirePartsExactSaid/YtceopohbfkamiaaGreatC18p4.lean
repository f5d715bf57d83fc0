/- The valid requests and states of wire are those of the reference. No condition beyond those of the given statement. -/
import Derived.Test.YtceopohbfkamiaaGreatM5
namespace Go.Proofs.YtceopohbfkamiaaGreat
open Go Go.AM
set_option maxRecDepth 100000

theorem lifted4 (os : Os) (started : os.Started) (H : Type) (enc : TypeId × Value → H) :
    ReturnsInHanded {} Tryz.checked os 4 .any (Rows.wirePartsExactSpec.pre6 enc Tryz.prog Tryz.f4 Rows.wirePartsExactRow.domain false) (Rows.wirePartsExactSpec.post enc Tryz.prog Tryz.f4 Rows.wirePartsExactRow.apart Rows.wirePartsExactRow.fresh Rows.wirePartsExactRow.handsOn Rows.wirePartsExactRow.again) := by
  refine returnsInHanded_of_change (C := Tryz.checked) ownKnobOk started (by kernel_rfl) Tryz.func4
    (ChangeSpec.witness6 (enc := enc) (C := Tryz.checked) false ⟨#[], #[.agg #[.int .i64 0, .int .i64 0, .int .i64 0, .int .i64 0, .int .i64 0, .int .i64 0, .int .i64 0, .int .i64 0, .int .i64 0, .int .i64 0, .int .i64 0, .int .i64 0, .int .i64 0, .int .i64 0, .int .i64 0, .int .i64 0, .int .i64 0, .int .i64 0, .int .i64 0, .int .i64 0, .slice none 0 0, .int .i64 0, .int .i64 0, .int .i64 0, .int .i64 0, .int .i64 0, .int .i64 0, .bool false], .agg #[.slice none 0 0, .slice none 0 0, .slice none 0 0, .slice none 0 0, .slice none 0 0, .slice none 0 0]], []⟩ 12 (by kernel_rfl) (by kernel_rfl) (by kernel_rfl) (by kernel_rfl)) ?_
  intro W base args ds gs before hval hW _ _
  refine contract_true (d := 12) laid (fun t ht => parOk t ?_) (by kernel_rfl : Tryz.f4.resultTypes = #[4]) Tryz.underlying4 rfl (fun ds hd => ?_) (fun xs hx hty => ?_) W base args ds gs before hval hW
  · have : (Tryz.f4.params.toList.all fun t => parTs.contains t) = true := by kernel_rfl
    rw [List.all_eq_true] at this
    exact this t ht
  · rw [Tryz.params4] at hd
    match ds, hd with
    | [d0, d1], _ => rfl
  · rw [Tryz.params4] at hx hty
    match xs, hx with
    | [x0, x1], _ =>
      obtain ⟨rq0, rfl, hr0⟩ := arg_req (hty 0 _ _ rfl rfl)
      obtain ⟨st1, rfl, hf1⟩ := arg_state (hty 1 _ _ rfl rfl)
      have e1 : apsDen S4.args [.i rq0.id.core, .i rq0.id.op, .i rq0.id.part, .i rq0.call.kind, .i rq0.call.slot, .i rq0.call.dest, .i rq0.call.core, .i rq0.call.mask, .i rq0.call.object, .i rq0.call.bits, .i rq0.call.level, .i rq0.call.offset, .i rq0.call.count, .i rq0.call.index, .i rq0.call.addr, .i rq0.region, .i rq0.width, .i rq0.src.id.core, .i rq0.src.id.op, .i rq0.src.id.part, .l (idCells rq0.src.path), .i rq0.src.cap.kind, .i rq0.src.cap.base, .i rq0.src.cap.bits, .i rq0.src.cap.rights, .i rq0.src.cap.width, .i rq0.src.cap.level, .b rq0.src.cap.device, .l (st1.slots.map slotc), .l (st1.pending.map reqc), .l (st1.marks.map markc), .l (st1.answers.map ansc), .l (st1.entries.map entryc), .l (idCells st1.commits)] 0 = [.agg (reqc rq0), .agg (statec st1)] := by kernel_rfl
      have e2 : (g4 rq0.id.core rq0.id.op rq0.id.part rq0.call.kind rq0.call.slot rq0.call.dest rq0.call.core rq0.call.mask rq0.call.object rq0.call.bits rq0.call.level rq0.call.offset rq0.call.count rq0.call.index rq0.call.addr rq0.region rq0.width rq0.src.id.core rq0.src.id.op rq0.src.id.part ((idCells rq0.src.path)) rq0.src.cap.kind rq0.src.cap.base rq0.src.cap.bits rq0.src.cap.rights rq0.src.cap.width rq0.src.cap.level rq0.src.cap.device ((st1.slots.map slotc)) ((st1.pending.map reqc)) ((st1.marks.map markc)) ((st1.answers.map ansc)) ((st1.entries.map entryc)) ((idCells st1.commits)) = some true) = (S4.g [.i rq0.id.core, .i rq0.id.op, .i rq0.id.part, .i rq0.call.kind, .i rq0.call.slot, .i rq0.call.dest, .i rq0.call.core, .i rq0.call.mask, .i rq0.call.object, .i rq0.call.bits, .i rq0.call.level, .i rq0.call.offset, .i rq0.call.count, .i rq0.call.index, .i rq0.call.addr, .i rq0.region, .i rq0.width, .i rq0.src.id.core, .i rq0.src.id.op, .i rq0.src.id.part, .l (idCells rq0.src.path), .i rq0.src.cap.kind, .i rq0.src.cap.base, .i rq0.src.cap.bits, .i rq0.src.cap.rights, .i rq0.src.cap.width, .i rq0.src.cap.level, .b rq0.src.cap.device, .l (st1.slots.map slotc), .l (st1.pending.map reqc), .l (st1.marks.map markc), .l (st1.answers.map ansc), .l (st1.entries.map entryc), .l (idCells st1.commits)] = some (cast (by kernel_rfl : Bool = ShsT (shsOf S4.res S4.args)) true)) := by kernel_rfl
      have e3 : resDen S4.res (toVs (shsOf S4.res S4.args) (cast (by kernel_rfl : Bool = ShsT (shsOf S4.res S4.args)) true)) 0 = .val (.bool true) := by kernel_rfl
      have h := ok4 [.i rq0.id.core, .i rq0.id.op, .i rq0.id.part, .i rq0.call.kind, .i rq0.call.slot, .i rq0.call.dest, .i rq0.call.core, .i rq0.call.mask, .i rq0.call.object, .i rq0.call.bits, .i rq0.call.level, .i rq0.call.offset, .i rq0.call.count, .i rq0.call.index, .i rq0.call.addr, .i rq0.region, .i rq0.width, .i rq0.src.id.core, .i rq0.src.id.op, .i rq0.src.id.part, .l (idCells rq0.src.path), .i rq0.src.cap.kind, .i rq0.src.cap.base, .i rq0.src.cap.bits, .i rq0.src.cap.rights, .i rq0.src.cap.width, .i rq0.src.cap.level, .b rq0.src.cap.device, .l (st1.slots.map slotc), .l (st1.pending.map reqc), .l (st1.marks.map markc), .l (st1.answers.map ansc), .l (st1.entries.map entryc), .l (idCells st1.commits)] (cast (by kernel_rfl : Bool = ShsT (shsOf S4.res S4.args)) true) (Eq.mp e2 (s4 rq0 hr0 st1 hf1))
      rw [e1, e3] at h
      exact ⟨_, h⟩

theorem joined4 : joinedFacts Tryz.prog 4 Tryz.f4 Rows.wirePartsExactSpec Rows.wirePartsExactRow = true := by
  unfold joinedFacts
  rw [enters, lifts, makeIs]
  change _ = _
  kernel_rfl

theorem holds4 : Rows.WirePartsExactSaid :=
  OpenClaim.holds_of_wide 4 Tryz.f4 rfl rfl rfl rfl rfl rfl rfl ⟨rfl, rfl, rfl, rfl, rfl⟩ rfl rfl rfl rfl rfl (by kernel_rfl) Tryz.func4 joined4
    (of_decide_eq_true (by kernel_rfl)) (by unfold Func.isWrapper; first | (rw [if_pos (by decide +kernel)]; kernel_rfl) | (rw [if_neg (by decide +kernel)]; exact ⟨rfl, rfl⟩))
    (fun os started H enc _ => lifted4 os started H enc)

#print axioms holds4
end Go.Proofs.YtceopohbfkamiaaGreat
