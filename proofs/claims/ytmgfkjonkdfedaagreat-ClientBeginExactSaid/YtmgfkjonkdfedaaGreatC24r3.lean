/- The statement ClientBeginExact holds: Begin equals the reference, for arbitrary arguments. No condition beyond those of the given statement. -/
import Derived.Test.YtmgfkjonkdfedaaGreatM5
namespace Go.Proofs.YtmgfkjonkdfedaaGreat
open Go Go.AM
set_option maxRecDepth 100000

theorem lifted3 (os : Os) (started : os.Started) (H : Type) (enc : TypeId × Value → H) :
    ReturnsInHanded {} Tryz.checked os 3 .any (Rows.clientBeginExactSpec.pre6 enc Tryz.prog Tryz.f3 Rows.clientBeginExactRow.domain false) (Rows.clientBeginExactSpec.post enc Tryz.prog Tryz.f3 Rows.clientBeginExactRow.apart Rows.clientBeginExactRow.fresh Rows.clientBeginExactRow.handsOn Rows.clientBeginExactRow.again) := by
  refine returnsInHanded_of_change (C := Tryz.checked) ownKnobOk started (by kernel_rfl) Tryz.func3
    (ChangeSpec.witness6 (enc := enc) (C := Tryz.checked) false ⟨#[], #[.slice none 0 0, .slice none 0 0, .agg #[.int .i64 0, .int .i64 0, .int .i64 0, .int .i64 0, .int .i64 0, .int .i64 0, .int .i64 0, .int .i64 0, .int .i64 0, .int .i64 0, .int .i64 0, .int .i64 0, .int .i64 0, .int .i64 0, .int .i64 0, .int .i64 0, .int .i64 0, .int .i64 0, .int .i64 0, .int .i64 0, .slice none 0 0, .int .i64 0, .int .i64 0, .int .i64 0, .int .i64 0, .int .i64 0, .int .i64 0, .bool false], .slice none 0 0], []⟩ 12 (by kernel_rfl) (by kernel_rfl) (by kernel_rfl) (by kernel_rfl)) ?_
  intro W base args ds gs before hval hW _ _
  refine contract_true (d := 12) laid (fun t ht => parOk t ?_) (by kernel_rfl : Tryz.f3.resultTypes = #[4]) Tryz.underlying4 rfl (fun ds hd => ?_) (fun xs hx hty => ?_) W base args ds gs before hval hW
  · have : (Tryz.f3.params.toList.all fun t => parTs.contains t) = true := by kernel_rfl
    rw [List.all_eq_true] at this
    exact this t ht
  · rw [Tryz.params3] at hd
    match ds, hd with
    | [d0, d1, d2, d3], _ => rfl
  · rw [Tryz.params3] at hx hty
    match xs, hx with
    | [x0, x1, x2, x3], _ =>
      obtain ⟨sls0, rfl, hn0, hp0⟩ := arg_slots (hty 0 _ _ rfl rfl)
      obtain ⟨rqs1, rfl, hn1, hp1⟩ := arg_reqs (hty 1 _ _ rfl rfl)
      obtain ⟨rq2, rfl, hr2⟩ := arg_req (hty 2 _ _ rfl rfl)
      obtain ⟨zs3, rfl, hhl3⟩ := arg_ints (hty 3 _ _ rfl rfl)
      have e1 : apsDen F3.S.args [.l (sls0.map slotc), .l (rqs1.map reqc), .i rq2.id.core, .i rq2.id.op, .i rq2.id.part, .i rq2.call.kind, .i rq2.call.slot, .i rq2.call.dest, .i rq2.call.core, .i rq2.call.mask, .i rq2.call.object, .i rq2.call.bits, .i rq2.call.level, .i rq2.call.offset, .i rq2.call.count, .i rq2.call.index, .i rq2.call.addr, .i rq2.region, .i rq2.width, .i rq2.src.id.core, .i rq2.src.id.op, .i rq2.src.id.part, .l (idCells rq2.src.path), .i rq2.src.cap.kind, .i rq2.src.cap.base, .i rq2.src.cap.bits, .i rq2.src.cap.rights, .i rq2.src.cap.width, .i rq2.src.cap.level, .b rq2.src.cap.device, .l (intCells zs3)] 0 = [.slice false 15 (sls0.map slotc), .slice false 28 (rqs1.map reqc), .agg (reqc rq2), .slice false 1 (intCells zs3)] := by kernel_rfl
      have e2 : (g3 ((sls0.map slotc)) ((rqs1.map reqc)) rq2.id.core rq2.id.op rq2.id.part rq2.call.kind rq2.call.slot rq2.call.dest rq2.call.core rq2.call.mask rq2.call.object rq2.call.bits rq2.call.level rq2.call.offset rq2.call.count rq2.call.index rq2.call.addr rq2.region rq2.width rq2.src.id.core rq2.src.id.op rq2.src.id.part ((idCells rq2.src.path)) rq2.src.cap.kind rq2.src.cap.base rq2.src.cap.bits rq2.src.cap.rights rq2.src.cap.width rq2.src.cap.level rq2.src.cap.device ((intCells zs3)) = some true) = (F3.S.g [.l (sls0.map slotc), .l (rqs1.map reqc), .i rq2.id.core, .i rq2.id.op, .i rq2.id.part, .i rq2.call.kind, .i rq2.call.slot, .i rq2.call.dest, .i rq2.call.core, .i rq2.call.mask, .i rq2.call.object, .i rq2.call.bits, .i rq2.call.level, .i rq2.call.offset, .i rq2.call.count, .i rq2.call.index, .i rq2.call.addr, .i rq2.region, .i rq2.width, .i rq2.src.id.core, .i rq2.src.id.op, .i rq2.src.id.part, .l (idCells rq2.src.path), .i rq2.src.cap.kind, .i rq2.src.cap.base, .i rq2.src.cap.bits, .i rq2.src.cap.rights, .i rq2.src.cap.width, .i rq2.src.cap.level, .b rq2.src.cap.device, .l (intCells zs3)] = some (cast (by kernel_rfl : Bool = ShsT (shsOf F3.S.res F3.S.args)) true)) := by kernel_rfl
      have e3 : resDen F3.S.res (toVs (shsOf F3.S.res F3.S.args) (cast (by kernel_rfl : Bool = ShsT (shsOf F3.S.res F3.S.args)) true)) 0 = .val (.bool true) := by kernel_rfl
      have h2 := Eq.mp e2 (s3 sls0 hn0 hp0 rqs1 hn1 hp1 rq2 hr2 zs3)
      have h := ok3 _ _ h2
      rw [e1, e3] at h
      exact ⟨_, h⟩

theorem joined3 : joinedFacts Tryz.prog 3 Tryz.f3 Rows.clientBeginExactSpec Rows.clientBeginExactRow = true := by
  unfold joinedFacts
  rw [enters, lifts, makeIs]
  change _ = _
  kernel_rfl

theorem holds3 : Rows.ClientBeginExactSaid :=
  OpenClaim.holds_of_wide 3 Tryz.f3 rfl rfl rfl rfl rfl rfl rfl ⟨rfl, rfl, rfl, rfl, rfl⟩ rfl rfl rfl rfl rfl (by kernel_rfl) Tryz.func3 joined3
    (of_decide_eq_true (by kernel_rfl)) (by unfold Func.isWrapper; first | (rw [if_pos (by decide +kernel)]; kernel_rfl) | (rw [if_neg (by decide +kernel)]; exact ⟨rfl, rfl⟩))
    (fun os started H enc _ => lifted3 os started H enc)

#print axioms holds3
end Go.Proofs.YtmgfkjonkdfedaaGreat
