/- The statement ClientRequestsExact holds: Requests equals the reference, for arbitrary requests and views. No condition beyond those of the given statement. -/
import Derived.Test.YtmgfkjonkdfedaaGreatM5
namespace Go.Proofs.YtmgfkjonkdfedaaGreat
open Go Go.AM
set_option maxRecDepth 100000

theorem lifted4 (os : Os) (started : os.Started) (H : Type) (enc : TypeId × Value → H) :
    ReturnsInHanded {} Tryz.checked os 4 .any (Rows.clientRequestsExactSpec.pre6 enc Tryz.prog Tryz.f4 Rows.clientRequestsExactRow.domain false) (Rows.clientRequestsExactSpec.post enc Tryz.prog Tryz.f4 Rows.clientRequestsExactRow.apart Rows.clientRequestsExactRow.fresh Rows.clientRequestsExactRow.handsOn Rows.clientRequestsExactRow.again) := by
  refine returnsInHanded_of_change (C := Tryz.checked) ownKnobOk started (by kernel_rfl) Tryz.func4
    (ChangeSpec.witness6 (enc := enc) (C := Tryz.checked) false ⟨#[], #[.slice none 0 0, .agg #[.int .i64 0, .slice none 0 0, .slice none 0 0]], []⟩ 12 (by kernel_rfl) (by kernel_rfl) (by kernel_rfl) (by kernel_rfl)) ?_
  intro W base args ds gs before hval hW _ _
  refine contract_true (d := 12) laid (fun t ht => parOk t ?_) (by kernel_rfl : Tryz.f4.resultTypes = #[4]) Tryz.underlying4 rfl (fun ds hd => ?_) (fun xs hx hty => ?_) W base args ds gs before hval hW
  · have : (Tryz.f4.params.toList.all fun t => parTs.contains t) = true := by kernel_rfl
    rw [List.all_eq_true] at this
    exact this t ht
  · rw [Tryz.params4] at hd
    match ds, hd with
    | [d0, d1], _ => rfl
  · rw [Tryz.params4] at hx hty
    match xs, hx with
    | [x0, x1], _ =>
      obtain ⟨rqs0, rfl, hn0, hp0⟩ := arg_reqs (hty 0 _ _ rfl rfl)
      obtain ⟨vw1, rfl, hf1⟩ := arg_view (hty 1 _ _ rfl rfl)
      have e1 : apsDen F4.S.args [.l (rqs0.map reqc), .i vw1.number, .l (intCells vw1.members), .l (intCells vw1.owners)] 0 = [.slice false 28 (rqs0.map reqc), .agg (viewc vw1)] := by kernel_rfl
      have e2 : (g4 ((rqs0.map reqc)) vw1.number ((intCells vw1.members)) ((intCells vw1.owners)) = some true) = (F4.S.g [.l (rqs0.map reqc), .i vw1.number, .l (intCells vw1.members), .l (intCells vw1.owners)] = some (cast (by kernel_rfl : Bool = ShsT (shsOf F4.S.res F4.S.args)) true)) := by kernel_rfl
      have e3 : resDen F4.S.res (toVs (shsOf F4.S.res F4.S.args) (cast (by kernel_rfl : Bool = ShsT (shsOf F4.S.res F4.S.args)) true)) 0 = .val (.bool true) := by kernel_rfl
      have h2 := Eq.mp e2 (s4 rqs0 hn0 hp0 vw1 hf1)
      have h := ok4 _ _ h2
      rw [e1, e3] at h
      exact ⟨_, h⟩

theorem joined4 : joinedFacts Tryz.prog 4 Tryz.f4 Rows.clientRequestsExactSpec Rows.clientRequestsExactRow = true := by
  unfold joinedFacts
  rw [enters, lifts, makeIs]
  change _ = _
  kernel_rfl

theorem holds4 : Rows.ClientRequestsExactSaid :=
  OpenClaim.holds_of_wide 4 Tryz.f4 rfl rfl rfl rfl rfl rfl rfl ⟨rfl, rfl, rfl, rfl, rfl⟩ rfl rfl rfl rfl rfl (by kernel_rfl) Tryz.func4 joined4
    (of_decide_eq_true (by kernel_rfl)) (by unfold Func.isWrapper; first | (rw [if_pos (by decide +kernel)]; kernel_rfl) | (rw [if_neg (by decide +kernel)]; exact ⟨rfl, rfl⟩))
    (fun os started H enc _ => lifted4 os started H enc)

#print axioms holds4
end Go.Proofs.YtmgfkjonkdfedaaGreat
