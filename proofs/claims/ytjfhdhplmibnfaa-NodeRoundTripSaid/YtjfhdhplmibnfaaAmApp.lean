/- Slices of one's own in boxes; append. Generic: no program stands in it. -/
import Derived.Test.YtjfhdhplmibnfaaAmOwn
namespace Go.AM

theorem set_take_drop (cs : List AV) (off : Nat) (x : AV) (h : off < cs.length) : cs.take off ++ [x] ++ cs.drop (off + 1) = cs.set off x := by
  rw [List.set_eq_take_append_cons_drop, if_pos h]
  simp

theorem exok_store_own {P : Program} {o : Oper} {σ : Nat → AV} {T : TypeId} {a : Operand} {t d off : Nat} {cs : List AV} {e : TypeId} {xs : List (List AV)} (ho : o.op = .store T a (.tmp t)) (ha : getS P σ a = .ptr d off) (hd : σ d = .box cs)
    (ht : σ t = .own e xs) (hn : P.cellsOf T = 1) (hfit : off < cs.length) (hnr : NoRow cs) :
    ExOK P o σ .dead [(t, .slice false (P.cellsOf e) xs), (d, .box (cs.set off (.own e xs)))] [d] := by
  intro c hc σ' tm w lim X hag hsim next Q hnx
  have hga : getS P σ' a = getS P σ a := getS_congr fun t ht => hag t (by simp [mem_uses (o := o) (x := a) (by rw [ho]; simp [Op.operands]) ht])
  have hd' : σ' d = .box cs := by rw [hag d (by simp), hd]
  have ht' : σ' t = .own e xs := by rw [hag t (by simp), ht]
  have hdt : d ≠ t := fun h => by rw [h, ht'] at hd'; cases hd'
  have hva := opnd hc hsim ha hga
  rw [← hc] at hva
  obtain ⟨b, h1, h2, h3⟩ := ptr_box hsim hd' hnr hva
  obtain ⟨b0, arr, ty, g1, g2, g3, g4, g5, g6, g7⟩ := h3
  have hb0 : b0 = b := by rw [g1] at h1; exact Option.some.inj h1
  subst hb0
  obtain ⟨i, hi⟩ := info_of_cells (P := P) (T := T) (by omega)
  obtain ⟨k1, k2, k3⟩ := hsim.free ht'
  have hset := k1.setCells (off := off) (vc := [.own e xs]) (us := [tm.getD t undef]) (fun i => if i = 0 then X t 0 else none) (by rw [upd_other _ _ hdt]; exact hd') hnr (by rw [rowX_other X noRow hdt]; exact g1) (by simp; omega) rfl
    (fun z hz => by simp at hz; subst hz; exact .inr ⟨e, xs, rfl⟩) (fun j z u hz hu => by
      cases j with
      | zero =>
        simp only [List.getElem?_cons_zero, Option.some.injEq] at hz hu
        subst hz
        subst hu
        show OwnR c.P w lim e xs _ (if 0 = 0 then X t 0 else none)
        rw [if_pos rfl]
        exact k2
      | succ j => simp at hz) g3 (fun j b' hb' => by
      by_cases hj : j = 0
      · subst hj
        rw [if_pos rfl] at hb'
        exact ⟨by simp, (k3 b' hb').1, (hsim.ours t 0 b' hb').1, (k3 b' hb').2, fun i' hi' => by
          by_cases hz : i' = 0
          · exact hz.symm
          · rw [if_neg hz] at hi'; cases hi'⟩
      · rw [if_neg hj] at hb'; cases hb')
  refine wp_of_skip (w' := w.setRow b0 (arr.toList.take off ++ [tm.getD t undef] ++ arr.toList.drop (off + 1)).toArray) ?_ (hnx undef _ ?_)
  · have hcell : (tm.getD t undef).cells = [tm.getD t undef].toArray ∧ (tm.getD t undef).oneCell' = true := by
      rcases k2 with ⟨us, hr, _⟩ | ⟨_, _, b1, hv⟩
      · rcases hr.2 with ⟨hv, _⟩ | ⟨g, cap, cur, hv, _⟩ <;> rw [hv] <;> exact ⟨rfl, rfl⟩
      · rw [hv]; exact ⟨rfl, rfl⟩
    have hst := run_storeAt (P := P) (T := T) (w := w) (b := b0) (off := off) (v := tm.getD t undef) hi hcell.1 (by simp [hn]) g3 (by simp [g4]; omega) (fun u hu => by
      simp at hu
      subst hu
      simpa using hcell.2)
    have hev : Act.eval ⟨tm, []⟩ (.tmp t) = tm.getD t undef := rfl
    simp only [execOp, ho, h2, hev, Sem.run_bind, hst, Result.andThen_ok, Sem.run_pure]
    rfl
  · have hl : cs.take off ++ [.own e xs] ++ cs.drop (off + [AV.own e xs].length) = cs.set off (.own e xs) := set_take_drop cs off _ hfit
    rw [hl, hc] at hset
    exact after_plain hset rfl (k := 0) trivial

theorem exok_load_own {P : Program} {o : Oper} {σ : Nat → AV} {T : TypeId} {a : Operand} {d off : Nat} {cs : List AV} {e : TypeId} {xs : List (List AV)} (ho : o.op = .load T a) (hT : isAggT P T = some false)
    (ha : getS P σ a = .ptr d off) (hd : σ d = .box cs) (hx : cs[off]? = some (.own e xs)) (hnr : NoRow cs) : ExOK P o σ (.own e xs) [(d, .box (cs.set off (.slice false (P.cellsOf e) xs)))] [d] := by
  intro c hc σ' tm w lim X hag hsim next Q hn
  have hg : getS P σ' a = getS P σ a := getS_congr fun t ht => hag t (by simp [mem_uses (o := o) (x := a) (by rw [ho]; simp [Op.operands]) ht])
  have hv := opnd hc hsim ha hg
  have hd' : σ' d = .box cs := by rw [hag d (by simp), hd]
  rw [← hc] at hv
  obtain ⟨b, h1, h2, h3⟩ := ptr_box hsim hd' hnr hv
  have hlt : off < cs.length := (List.getElem?_eq_some_iff.1 hx).1
  have hrel := hsim.rel d
  rw [hd'] at hrel
  obtain ⟨b0, arr, ty, g1, g2, g3, g4, g5, g6, g7⟩ := BoxR.plain hrel hnr
  have hb0 : b0 = b := by rw [g1] at h1; exact Option.some.inj h1
  subst hb0
  have hlt' : off < arr.size := by omega
  have hu : arr[off]? = some arr[off] := Array.getElem?_eq_getElem hlt'
  have hown : OwnR c.P w lim e xs arr[off] (X d (off + 1)) := g7 off _ _ hx hu
  have hdn : d < c.nt := by
    rcases Nat.lt_or_ge d c.nt with hlt | hge
    · exact hlt
    · have := hsim.out d hge; rw [hd'] at this; cases this
  have h1' : Sim c (upd σ' d (.box (cs.set off (.slice false (P.cellsOf e) xs)))) tm w lim (rowX X d fun k => if k = off + 1 then none else X d k) := by
    refine hsim.putRow (S := fun _ => False) _ (WStep.refl w lim _) (fun _ hs => hs.elim) hdn rfl (fun j _ => rfl) (.inr ⟨⟨_, rfl, fun cs0 h0 => by (rw [hd'] at h0; cases h0; exact RowKept.of_plain hnr)⟩, by rw [if_neg (by omega)], rfl⟩) ?_ (fun k b hk => ?_) (fun k k' b hk hk' => ?_)
    · refine .inl ⟨b0, arr, ty, by rw [rowX_same]; exact g1, g2, g3, by simp [g4], g5, fun y hy => ?_, fun j y u hy hju => ?_⟩
      · obtain ⟨j, hj⟩ := List.mem_iff_getElem?.1 hy
        by_cases hji : j = off
        · subst hji
          rw [List.getElem?_set_self hlt] at hj
          simp only [Option.some.injEq] at hj
          subst hj
          exact .inl rfl
        · rw [List.getElem?_set_ne (fun h => hji h.symm)] at hj
          exact g6 y (List.mem_of_getElem? hj)
      · rw [rowX_same]
        by_cases hji : j = off
        · subst hji
          rw [List.getElem?_set_self hlt] at hy
          simp only [Option.some.injEq] at hy
          subst hy
          rw [hu] at hju
          simp only [Option.some.injEq] at hju
          subst hju
          have := OwnR.rep hown false rfl
          rw [hc] at this
          exact this
        · rw [List.getElem?_set_ne (fun h => hji h.symm)] at hy
          rw [if_neg (by omega)]
          exact g7 j y u hy hju
    · split at hk
      · cases hk
      · exact ⟨(hsim.ours d k b hk).1, (hsim.ours d k b hk).2, fun a j ha hj => ha (hsim.dist a j d k b hj hk).1⟩
    · split at hk <;> split at hk'
      · omega
      · cases hk
      · cases hk'
      · exact (hsim.dist d k d k' b hk hk').2
  refine wp_of_run (v := arr[off]) (w' := w) ?_ (hn _ w (after_own h1' hown fun b hb => ⟨(hsim.ours d _ b hb).2, fun a j haj => ?_⟩))
  · have hcell : w.cell? ⟨b0, off, none⟩ = some arr[off] := by rw [cell_of_heap g3]; exact hu
    simp [execOp, ho, h2, run_loadCell hT hcell]
  · by_cases ha : a = d
    · subst ha
      rw [rowX_same] at haj
      split at haj
      · cases haj
      · rename_i hne
        exact hne (hsim.dist a j a (off + 1) b haj hb).2
    · rw [rowX_other X _ ha] at haj
      exact ha (hsim.dist a j d (off + 1) b haj hb).1

theorem run_append_zero {P : Program} {T ty e : TypeId} {i : TypeInfo} (hT : P.underlying T = some (.slice e)) (hi : P.info? e = some i) (w : World) (base : Option Addr) (n cap : Nat) (hn : n ≤ cap) (a : Option Addr) (c : Nat) :
    (Builtin.append_ #[T, T] ty #[.slice base n cap, .slice a 0 c]).run P w = .ok (.slice base n cap) w := by
  cases a <;> cases base <;>
    simp [Builtin.append_, run_underlying hT, sizeOf, typeInfo, hi, Builtin.lenOf, hn, Builtin.firstCells, loadCells, loadCellsFrom, storeCells]

/-- A new block that holds a slice of one's own. -/
theorem own_new {P : Program} {w : World} {lim : Nat → Nat} {e : TypeId} {zs : List (List AV)} {us : List Value} {arr : Array Value} {cap : Nat} (h1 : us.length = zs.length * P.cellsOf e) (h2 : zs.length ≤ cap) (h3 : cap ≤ maxLen)
    (h4 : arr.size = cap * P.cellsOf e) (h5 : arr.toList.take us.length = us) (h6 : ∀ x ∈ zs, x.length = P.cellsOf e) (h7 : ∀ x ∈ zs, ∀ c ∈ x, c.isCell = true)
    (h8 : ∀ (j : Nat) (c : AV) (u : Value), zs.flatten[j]? = some c → us[j]? = some u → Rep w lim c u) (S : Nat → Prop) :
    OwnR P (w.drew.alloc (.cells arr e)) (fun b => if b = w.heap.size then us.length else lim b) e zs (.slice (some ⟨w.heap.size, 0, none⟩) zs.length cap) (some w.heap.size) ∧
    WStep w lim (w.drew.alloc (.cells arr e)) (fun b => if b = w.heap.size then us.length else lim b) S := by
  have hstep : WStep w lim (w.drew.alloc (.cells arr e)) (fun b => if b = w.heap.size then us.length else lim b) S := by
    have := wstep_alloc w.drew lim arr e us.length S
    exact ⟨this.os, this.tape, this.output, this.size, this.frz, this.blk, this.ext⟩
  refine ⟨.inl ⟨us, ⟨h1, .inr ⟨w.heap.size, cap, arr, rfl, Nat.zero_le _, heap_new w.drew arr e, h2, h3, h4, by rw [← h1]; exact h5⟩⟩, rfl, fun b hb => ?_, h6, h7, fun j c u hc hu => (h8 j c u hc hu).mono hstep.ext⟩, hstep⟩
  simp only [Option.some.injEq] at hb
  subst hb
  exact if_pos rfl

theorem append_run {P : Program} {T ty e : TypeId} {i : TypeInfo} {z : Value} {w : World} {lim : Nat → Nat} {xs ys : List (List AV)} {v yv : Value} {ob : Option Nat} {f : Bool} (hT : P.underlying T = some (.slice e)) (hi : P.info? e = some i)
    (hz : i.zero = some z) (hzs : z.cells.size = i.size) (hx : OwnR P w lim e xs v ob) (hy : Rep w lim (.slice f (P.cellsOf e) ys) yv) (hroom : (xs.length + ys.length) * (i.bytes + 1) ≤ roomMax) :
    ∃ v' w' lim' ob', (Builtin.append_ #[T, T] ty #[v, yv]).run P w = .ok v' w' ∧ OwnR P w' lim' e (xs ++ ys) v' ob' ∧ WStep w lim w' lim' (fun b => ob = some b) ∧ (ob' = ob ∨ ob' = some w.heap.size) := by
  have hsz : P.cellsOf e = i.size := cellsOf_info hi
  have hb1 : xs.length + ys.length ≤ 1099511627776 := by
    have : (xs.length + ys.length) * 1 ≤ (xs.length + ys.length) * (i.bytes + 1) := Nat.mul_le_mul_left _ (by omega)
    unfold roomMax at hroom
    omega
  have hb2 : (xs.length + ys.length) * i.bytes ≤ 1099511627776 := by
    have : (xs.length + ys.length) * i.bytes ≤ (xs.length + ys.length) * (i.bytes + 1) := Nat.mul_le_mul_left _ (by omega)
    unfold roomMax at hroom
    omega
  have hvform : ∃ base cap, v = .slice base xs.length cap ∧ xs.length ≤ cap := by
    rcases hx with ⟨us, hr, _⟩ | ⟨rfl, _, a, rfl⟩
    · rcases hr.2 with ⟨hv, hn⟩ | ⟨g, cap, cur, hv, _, _, hnc, _⟩
      · exact ⟨none, 0, by rw [hv, hn], by omega⟩
      · exact ⟨_, cap, hv, hnc⟩
    · exact ⟨_, 0, rfl, Nat.le_refl _⟩
  by_cases hm : ys = []
  · subst hm
    obtain ⟨base, cap, hv, hle⟩ := hvform
    obtain ⟨a, c, hyv, _⟩ := rep_slice_form hy
    refine ⟨v, w, lim, ob, ?_, by rw [List.append_nil]; exact hx, WStep.refl w lim _, .inl rfl⟩
    rw [hv, hyv]
    exact run_append_zero hT hi w base xs.length cap hle a c
  · have hm0 : 0 < ys.length := List.length_pos_iff.2 hm
    cases hy with
    | sliceN => exact (hm rfl).elim
    | sliceE _ => exact (hm rfl).elim
    | @sliceC _ _ _ b o ycap news hs hcl hf hle hlim hnl hncell hnr =>
      have hnews : ∀ (j : Nat) (u : Value), news[j]? = some u → w.cell? ((⟨b, o, none⟩ : Addr).add j) = some u := fun j u hj => by rw [add_none]; exact hncell j u hj
      have hcells : ∀ x ∈ xs ++ ys, x.length = P.cellsOf e := by
        intro x hx'
        rcases List.mem_append.1 hx' with h | h
        · rcases hx with ⟨_, _, _, _, h4, _⟩ | ⟨rfl, _⟩
          · exact h4 x h
          · simp at h
        · exact hs x h
      have hcc : ∀ x ∈ xs ++ ys, ∀ c ∈ x, c.isCell = true := by
        intro x hx'
        rcases List.mem_append.1 hx' with h | h
        · rcases hx with ⟨_, _, _, _, _, h5, _⟩ | ⟨rfl, _⟩
          · exact h5 x h
          · simp at h
        · exact hcl x h
      have hnew1 : ∀ u ∈ news, u.oneCell' = true := by
        intro u hu
        obtain ⟨j, hj⟩ := List.mem_iff_getElem?.1 hu
        have hlt : j < ys.flatten.length := by
          rw [getD_replicate_flat ys _ hs, ← hnl]; exact (List.getElem?_eq_some_iff.1 hj).1
        have hcell := hnr j _ u (List.getElem?_eq_getElem hlt) hj
        obtain ⟨y, hy1, hy2⟩ := List.mem_flatten.1 (List.getElem_mem hlt)
        exact hcell.oneCell (hcl y hy1 _ hy2)
      have both : ∀ (us : List Value), us.length = xs.length * P.cellsOf e → (∀ x ∈ xs, x.length = P.cellsOf e) → (∀ (j : Nat) (c : AV) (u : Value), xs.flatten[j]? = some c → us[j]? = some u → Rep w lim c u) →
          ∀ (j : Nat) (c : AV) (u : Value), (xs ++ ys).flatten[j]? = some c → (us ++ news)[j]? = some u → Rep w lim c u := by
        intro us hul hxl hur j c u hc hu
        have hfl : xs.flatten.length = us.length := by rw [getD_replicate_flat xs _ hxl, hul]
        rw [List.flatten_append] at hc
        by_cases hj : j < us.length
        · rw [List.getElem?_append_left (by omega)] at hc
          rw [List.getElem?_append_left hj] at hu
          exact hur j c u hc hu
        · rw [List.getElem?_append_right (by omega), hfl] at hc
          rw [List.getElem?_append_right (by omega)] at hu
          exact hnr _ c u hc hu
      have grown : ∀ (us : List Value) (old : Nat), us.length = xs.length * P.cellsOf e → (∀ (j : Nat) (c : AV) (u : Value), xs.flatten[j]? = some c → us[j]? = some u → Rep w lim c u) → (∀ x ∈ xs, x.length = P.cellsOf e) →
          ∃ lim', OwnR P (w.drew.alloc (.cells (us.toArray ++ news.toArray ++ Builtin.zeroCells z.cells (grownCap w (xs.length + ys.length) old e - (xs.length + ys.length))) e)) lim' e (xs ++ ys) (.slice (some ⟨w.heap.size, 0, none⟩) (xs.length + ys.length) (grownCap w (xs.length + ys.length) old e)) (some w.heap.size) ∧
            WStep w lim (w.drew.alloc (.cells (us.toArray ++ news.toArray ++ Builtin.zeroCells z.cells (grownCap w (xs.length + ys.length) old e - (xs.length + ys.length))) e)) lim' (fun b => ob = some b) := by
        intro us old hul hur hxl
        have hge := grownCap_ge w (xs.length + ys.length) old e
        have hml := grownCap_le_maxLen w (xs.length + ys.length) old e (by simp only [maxLen]; omega)
        have := own_new (P := P) (w := w) (lim := lim) (e := e) (zs := xs ++ ys) (us := us ++ news) (arr := us.toArray ++ news.toArray ++ Builtin.zeroCells z.cells (grownCap w (xs.length + ys.length) old e - (xs.length + ys.length)))
          (cap := grownCap w (xs.length + ys.length) old e) (by rw [List.length_append, List.length_append, hul, hnl, Nat.add_mul]) (by rw [List.length_append]; exact hge) hml ?_ ?_ hcells hcc (both us hul hxl hur) (fun b => ob = some b)
        · have hla : (xs ++ ys).length = xs.length + ys.length := List.length_append
          rw [hla] at this
          exact ⟨_, this.1, this.2⟩
        · simp only [Array.size_append, List.size_toArray, size_zeroCells, hzs, hul, hnl, hsz, ← Nat.add_mul]
          congr 1
          omega
        · simp only [Array.toList_append]
          exact List.take_left
      rcases hx with ⟨us, hr, hob, hlimo, hxl, hxc, hur⟩ | ⟨rfl, hob, b', hv⟩
      · rcases hr.2 with ⟨hv, hn⟩ | ⟨g, cap, cur, hv, hbg, hg, hnc, hcm, hcs, htake⟩
        · have hxe : xs = [] := List.eq_nil_of_length_eq_zero hn
          have hue : us = [] := List.eq_nil_of_length_eq_zero (by rw [hr.1, hn]; simp)
          subst hxe
          subst hue
          have hrun := run_append_nil (P := P) w T ty e i z hT hi hz ⟨b, o, none⟩ ys.length ycap news (by rw [hnl, hsz]) hnews hm0 (by omega) (by simp only [List.length_nil, Nat.zero_add] at hb2; omega)
          obtain ⟨lim', h1, h2⟩ := grown [] 0 (by simp) (by simp) (by simp)
          simp only [List.length_nil, Nat.zero_add] at h1 h2
          have hemp : ([] : List Value).toArray ++ news.toArray = news.toArray := by simp
          rw [hemp] at h1 h2
          rw [hv]
          exact ⟨_, _, lim', _, hrun, h1, h2, .inr rfl⟩
        · have hobg : ob = some g := by rw [← hob, hv]; rfl
          by_cases hroom' : xs.length + ys.length ≤ cap
          · have hfit : xs.length * i.size + news.length ≤ cur.size := by rw [hnl, hcs, hsz, ← Nat.add_mul]; exact Nat.mul_le_mul_right _ hroom'
            have hrun := run_append_room (P := P) w T ty e i hT hi g xs.length cap cur hg ⟨b, o, none⟩ ys.length ycap news (by rw [hnl, hsz]) hnews hnew1 hroom' hfit
            have htake' : cur.toList.take (xs.length * i.size) = us := by rw [← hsz]; exact htake
            rw [htake'] at hrun
            have hul : us.length = xs.length * i.size := by rw [hr.1, hsz]
            have hstep : WStep w lim (w.setRow g (us ++ news ++ cur.toList.drop (xs.length * i.size + news.length)).toArray) (fun k => if k = g then us.length + news.length else lim k) (fun k => ob = some k) := by
              refine ⟨rfl, rfl, rfl, by simp, frozen_setRow w g cur _ e hg, fun k _ hk => ⟨setRow_other w g k _ (fun h => hk (by rw [hobg, h])), if_neg (fun h => hk (by rw [hobg, h]))⟩, fun k hk => ⟨?_, fun p u hp hu => ?_⟩⟩
              · show lim k ≤ if k = g then us.length + news.length else lim k
                split
                · rename_i h; subst h; rw [hlimo k hobg]; omega
                · exact Nat.le_refl _
              · by_cases h : k = g
                · subst h
                  rw [hlimo k hobg] at hp
                  rw [cell_of_heap (setRow_heap w k cur _ e (0, 0) hg)]
                  rw [cell_of_heap hg] at hu
                  have h1 : us[p]? = some u := by
                    rw [← htake', List.getElem?_take, if_pos (by omega)]
                    simpa using hu
                  rw [List.getElem?_toArray, List.append_assoc, List.getElem?_append_left hp]
                  exact h1
                · unfold World.cell? at hu ⊢
                  rw [setRow_other w g k _ h]
                  exact hu
            refine ⟨_, _, _, some g, by rw [hv]; exact hrun, .inl ⟨us ++ news, ⟨by rw [List.length_append, List.length_append, hul, hnl, hsz, Nat.add_mul], .inr ⟨g, cap, _, ?_, Nat.zero_le _, setRow_heap w g cur _ e (0, 0) hg, by rw [List.length_append]; exact hroom', hcm, ?_, ?_⟩⟩, rfl, fun b' hb' => ?_, hcells, hcc, fun j c u hc hu => (both us hr.1 hxl hur j c u hc hu).mono hstep.ext⟩, hstep, .inl hobg.symm⟩
            · rw [List.length_append]
            · simp only [List.size_toArray, List.length_append, List.length_drop, Array.length_toList]
              rw [hcs, hsz]
              rw [hcs, hsz] at hfit
              omega
            · have : (xs ++ ys).length * P.cellsOf e = (us ++ news).length := by rw [List.length_append, List.length_append, hul, hnl, hsz, Nat.add_mul]
              rw [this]
              exact List.take_left
            · simp only [Option.some.injEq] at hb'
              subst hb'
              rw [List.length_append]
              exact if_pos rfl
          · have holds : ∀ (j : Nat) (u : Value), us[j]? = some u → w.cell? ((⟨g, 0, none⟩ : Addr).add j) = some u := hr.cells (g := g) (by rw [hv]; rfl)
            have hrun := run_append_grow (P := P) w T ty e i z hT hi hz ⟨g, 0, none⟩ xs.length cap us (by rw [hr.1, hsz]) holds ⟨b, o, none⟩ ys.length ycap news (by rw [hnl, hsz]) hnews (by omega) (by omega) (growslice_fits (by omega) (by omega))
            obtain ⟨lim', h1, h2⟩ := grown us cap hr.1 hur hxl
            exact ⟨_, _, lim', _, by rw [hv]; exact hrun, h1, h2, .inr rfl⟩
      · have hrun := run_append_grow (P := P) w T ty e i z hT hi hz b' 0 0 [] (by simp) (by simp) ⟨b, o, none⟩ ys.length ycap news (by rw [hnl, hsz]) hnews (by omega) (by omega) (growslice_fits (by omega) (by simp only [List.length_nil] at hb2; omega))
        obtain ⟨lim', h1, h2⟩ := grown [] 0 (by simp) (by simp) (by simp)
        exact ⟨_, _, lim', _, by rw [hv]; exact hrun, h1, h2, .inr rfl⟩

end Go.AM
