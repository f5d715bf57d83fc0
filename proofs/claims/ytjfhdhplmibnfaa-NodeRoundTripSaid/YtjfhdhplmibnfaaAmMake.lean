/- Slices cut, bytes turned into a string, slices appended to. Generic: no program stands in it. -/
import Derived.Test.YtjfhdhplmibnfaaAmMem
namespace Go.AM

theorem flatten_drop (s : Nat) : ∀ (xs : List (List AV)) (l : Nat), (∀ x ∈ xs, x.length = s) → (xs.drop l).flatten = xs.flatten.drop (l * s)
  | xs, 0, _ => by simp
  | [], l + 1, _ => by simp
  | x :: xs, l + 1, h => by
    have hx := h x (by simp)
    have ih := flatten_drop s xs l fun y hy => h y (by simp [hy])
    simp only [List.drop_succ_cons, List.flatten_cons, ih]
    have hd : (l + 1) * s = x.length + l * s := by rw [hx, Nat.add_mul]; omega
    rw [hd, ← List.drop_drop]
    simp

theorem flatten_take (s : Nat) : ∀ (xs : List (List AV)) (l : Nat), (∀ x ∈ xs, x.length = s) → (xs.take l).flatten = xs.flatten.take (l * s)
  | xs, 0, _ => by simp
  | [], l + 1, _ => by simp
  | x :: xs, l + 1, h => by
    have hx := h x (by simp)
    have ih := flatten_take s xs l fun y hy => h y (by simp [hy])
    simp only [List.take_succ_cons, List.flatten_cons, ih]
    have hd : (l + 1) * s = x.length + l * s := by rw [hx, Nat.add_mul]; omega
    rw [hd, List.take_length_add_append]

theorem rep_cut {w : World} {lim : Nat → Nat} {f f' : Bool} {s : Nat} {xs : List (List AV)} {a : Option Addr} {n cap : Nat} (h : Rep w lim (.slice f s xs) (.slice a n cap)) (l hh : Nat)
    (h1 : l ≤ hh) (h2 : hh ≤ xs.length) (hf' : f' = true → cap = hh) : n = xs.length ∧ xs.length ≤ cap ∧
    Rep w lim (.slice f' s ((xs.take hh).drop l)) (.slice (if cap = l then a else a.map (·.add (l * s))) (hh - l) (cap - l)) := by
  cases h with
  | sliceN =>
    have h2' : hh = 0 := by simpa using h2
    subst h2'
    have h1' : l = 0 := by omega
    subst h1'
    exact ⟨rfl, Nat.le_refl _, .sliceN⟩
  | @sliceE _ _ a _ hf =>
    have h2' : hh = 0 := by simpa using h2
    subst h2'
    have h1' : l = 0 := by omega
    subst h1'
    refine ⟨rfl, Nat.zero_le _, ?_⟩
    have he : (if cap = 0 then some a else (some a).map (·.add (0 * s))) = some a := by
      split
      · rfl
      · simp [Addr.add]
    rw [he]
    exact .sliceE fun h => by simpa using hf' h
  | @sliceC _ _ _ b o _ us hs hc hf hle hlim hus hcell hr =>
    refine ⟨rfl, hle, ?_⟩
    have hlen : ((xs.take hh).drop l).length = hh - l := by simp; omega
    have hs' : ∀ e ∈ (xs.take hh).drop l, e.length = s := fun e he => hs e (List.mem_of_mem_take (List.mem_of_mem_drop he))
    have hc' : ∀ e ∈ (xs.take hh).drop l, ∀ c ∈ e, c.isCell = true := fun e he => hc e (List.mem_of_mem_take (List.mem_of_mem_drop he))
    rw [← hlen]
    by_cases hcl : cap = l
    · have hnil : (xs.take hh).drop l = [] := List.eq_nil_of_length_eq_zero (by rw [hlen]; omega)
      rw [if_pos hcl, hnil]
      exact .sliceC (xs := []) (us := []) (by simp) (by simp) (fun h => by simp; omega) (by simp) (fun h => (h rfl).elim) (by simp) (by simp) (by simp)
    · rw [if_neg hcl]
      simp only [Option.map_some, add_none]
      have hfl : ((xs.take hh).drop l).flatten = (xs.flatten.take (hh * s)).drop (l * s) := by
        rw [flatten_drop s _ l fun e he => hs e (List.mem_of_mem_take he), flatten_take s xs hh hs]
      have hm1 : l * s ≤ hh * s := Nat.mul_le_mul_right _ h1
      have hm2 : hh * s ≤ xs.length * s := Nat.mul_le_mul_right _ h2
      refine .sliceC (us := (us.take (hh * s)).drop (l * s)) hs' hc' (fun h => by rw [hlen, hf' h]) (by rw [hlen]; omega) (fun hne => ?_) ?_ (fun j u hj => ?_) fun j c u hcj huj => ?_
      · have hne' : us ≠ [] := by intro e; subst e; simp at hne
        have := hlim hne'
        have hpos : 0 < ((us.take (hh * s)).drop (l * s)).length := List.length_pos_iff.2 hne
        simp only [List.length_drop, List.length_take] at hpos ⊢
        omega
      · rw [hlen, Nat.sub_mul]
        simp only [List.length_drop, List.length_take]
        omega
      · rw [List.getElem?_drop, List.getElem?_take] at hj
        split at hj
        · have := hcell _ u hj
          rwa [← Nat.add_assoc] at this
        · cases hj
      · rw [hfl, List.getElem?_drop, List.getElem?_take] at hcj
        rw [List.getElem?_drop, List.getElem?_take] at huj
        split at hcj
        · rename_i hlt
          rw [if_pos hlt] at huj
          exact hr _ c u hcj huj
        · cases hcj

theorem rep_slice_form {w : World} {lim : Nat → Nat} {f : Bool} {s : Nat} {xs : List (List AV)} {v : Value} (h : Rep w lim (.slice f s xs) v) :
    ∃ a cap, v = .slice a xs.length cap ∧ (f = true → cap = xs.length) := by
  cases h with
  | sliceN => exact ⟨none, 0, rfl, fun _ => rfl⟩
  | sliceE hf => exact ⟨_, _, rfl, hf⟩
  | sliceC hs hc hf => exact ⟨_, _, rfl, hf⟩

/-- 'x[lo:hi]', its bounds known. -/
theorem exok_cut {P : Program} {o : Oper} {σ : Nat → AV} {T e : TypeId} {x : Operand} {lo hi : Option Operand} {f f' : Bool} {s : Nat} {xs : List (List AV)} {l h : Nat} (ho : o.op = .slice T x lo hi none)
    (hT : P.underlying T = some (.slice e)) (hs : s = P.cellsOf e) (hs0 : P.cellsOf e ≠ 0) (hx : getS P σ x = .slice f s xs) (h1 : l ≤ h) (h2 : h ≤ xs.length)
    (hlo : (lo = none ∧ l = 0) ∨ ∃ y k, lo = some y ∧ getS P σ y = .val (.int k l)) (hhi : (hi = none ∧ h = xs.length) ∨ ∃ y k, hi = some y ∧ getS P σ y = .val (.int k h))
    (hf : f' = true → f = true ∧ h = xs.length) : ExOK P o σ (.slice f' s ((xs.take h).drop l)) [] [] := by
  refine exok_plain [] rfl fun c hc σ' tm w lim X hg hfp hsim => ?_
  rw [ho] at hg
  have hv : Rep w lim (.slice f s xs) (Act.eval ⟨tm, []⟩ x) := opnd hc hsim hx (hg x (by simp [Op.operands]))
  obtain ⟨a, cap, ha, hcap⟩ := rep_slice_form hv
  rw [ha] at hv
  obtain ⟨_, hle, hr⟩ := rep_cut (f' := f') hv l h h1 h2 (fun hf' => by rw [hcap (hf hf').1, (hf hf').2])
  obtain ⟨inf, hinf⟩ := info_of_cells hs0
  refine ⟨_, ?_, hr⟩
  have hl' : ∀ y k, lo = some y → getS P σ y = .val (.int k l) → Act.eval ⟨tm, []⟩ y = .int k l := fun y k hy hk => opnd_val hc hsim hk (hg y (by simp [Op.operands, hy]))
  have hh' : ∀ y k, hi = some y → getS P σ y = .val (.int k h) → Act.eval ⟨tm, []⟩ y = .int k h := fun y k hy hk => opnd_val hc hsim hk (hg y (by simp [Op.operands, hy]))
  have b1 : h ≤ cap := by omega
  rcases hlo with ⟨rfl, rfl⟩ | ⟨y, k, rfl, hy⟩ <;> rcases hhi with ⟨rfl, rfl⟩ | ⟨z, k', rfl, hz⟩
  · simp [execOp, ho, ha, Instr.sliceAt, Instr.slice, Instr.sliceBounds, run_underlying hT, run_sizeOf hinf, hs]
  · simp [execOp, ho, ha, Instr.sliceAt, Instr.slice, Instr.sliceBounds, Instr.sliceBound, asIntOf, run_underlying hT, run_sizeOf hinf, hh' z k' rfl hz, b1, hs]
  · simp [execOp, ho, ha, Instr.sliceAt, Instr.slice, Instr.sliceBounds, Instr.sliceBound, asIntOf, run_underlying hT, run_sizeOf hinf, hl' y k rfl hy, h1, hs]
  · simp [execOp, ho, ha, Instr.sliceAt, Instr.slice, Instr.sliceBounds, Instr.sliceBound, asIntOf, run_underlying hT, run_sizeOf hinf, hl' y k rfl hy, hh' z k' rfl hz, b1, h1, hs]

/-- 'x[:0:0]'. -/
theorem exok_cut00 {P : Program} {o : Oper} {σ : Nat → AV} {T e : TypeId} {x y z : Operand} {f : Bool} {s : Nat} {xs : List (List AV)} {k k' : IntKind} (ho : o.op = .slice T x none (some y) (some z))
    (hT : P.underlying T = some (.slice e)) (hs0 : P.cellsOf e ≠ 0) (hx : getS P σ x = .slice f s xs) (hy : getS P σ y = .val (.int k 0)) (hz : getS P σ z = .val (.int k' 0)) : ExOK P o σ (.slice true s []) [] [] := by
  refine exok_plain [] rfl fun c hc σ' tm w lim X hg hfp hsim => ?_
  rw [ho] at hg
  have hv : Rep w lim (.slice f s xs) (Act.eval ⟨tm, []⟩ x) := opnd hc hsim hx (hg x (by simp [Op.operands]))
  have hy' := opnd_val hc hsim hy (hg y (by simp [Op.operands]))
  have hz' := opnd_val hc hsim hz (hg z (by simp [Op.operands]))
  obtain ⟨inf, hinf⟩ := info_of_cells hs0
  generalize hu : Act.eval ⟨tm, []⟩ x = u at hv
  cases hv with
  | sliceN =>
    refine ⟨.slice none 0 0, ?_, .sliceN⟩
    simp [execOp, ho, hu, hy', hz', Instr.sliceAt, Instr.slice, Instr.sliceBounds, Instr.sliceBound, asIntOf, run_underlying hT, run_sizeOf hinf]
  | @sliceE _ _ a cap hf =>
    refine ⟨.slice (some a) 0 0, ?_, .sliceE (fun _ => rfl)⟩
    simp [execOp, ho, hu, hy', hz', Instr.sliceAt, Instr.slice, Instr.sliceBounds, Instr.sliceBound, asIntOf, run_underlying hT, run_sizeOf hinf]
  | @sliceC _ _ _ b p cap us hls hc1 hf hle hlim hus hcell hrep =>
    refine ⟨.slice (some ⟨b, p, none⟩) 0 0, ?_, .sliceC (xs := []) (us := []) (by simp) (by simp) (fun _ => rfl) (by simp) (fun h => (h rfl).elim) (by simp) (by simp) (by simp)⟩
    simp [execOp, ho, hu, hy', hz', Instr.sliceAt, Instr.slice, Instr.sliceBounds, Instr.sliceBound, asIntOf, run_underlying hT, run_sizeOf hinf]

def bytesOk (xs : List (List AV)) : Prop := ∀ e ∈ xs, ∃ n : Int, 0 ≤ n ∧ n ≤ 255 ∧ e = [.val (.int .u8 n)]

theorem bytes_cells {w : World} {lim : Nat → Nat} : ∀ (xs : List (List AV)) (us : List Value), bytesOk xs → us.length = xs.length →
    (∀ (j : Nat) (c : AV) (u : Value), xs.flatten[j]? = some c → us[j]? = some u → Rep w lim c u) →
    ∃ ns : List Int, us = ns.map (Value.int .u8) ∧ xs.map (fun e => (toByte e).getD 0) = ns.map fun n => UInt8.ofNat n.toNat
  | [], us, _, hl, _ => by
    have : us = [] := List.eq_nil_of_length_eq_zero (by simpa using hl)
    subst this
    exact ⟨[], rfl, rfl⟩
  | x :: xs, us, hb, hl, hr => by
    obtain ⟨n, h0, h1, rfl⟩ := hb x (by simp)
    cases us with
    | nil => simp at hl
    | cons u us =>
      obtain ⟨ns, h2, h3⟩ := bytes_cells (w := w) (lim := lim) xs us (fun e he => hb e (by simp [he])) (by simpa using hl) (fun j c u' hc hu => hr (j + 1) c u' (by simpa using hc) (by simpa using hu))
      have := rep_val (hr 0 (.val (.int .u8 n)) u (by simp) rfl)
      exact ⟨n :: ns, by simp [this, h2], by rw [List.map_cons, List.map_cons, h3]; rfl⟩

theorem foldl_push (ns : List Int) : ∀ (s : ByteArray), ns.foldl (fun r n => r.push (UInt8.ofNat n.toNat)) s = ⟨s.data ++ (ns.map fun n => UInt8.ofNat n.toNat).toArray⟩ := by
  induction ns with
  | nil => intro s; simp
  | cons n ns ih =>
    intro s
    simp only [List.foldl_cons, ih, List.map_cons]
    congr 1
    show (s.data.push (UInt8.ofNat n.toNat)) ++ _ = _
    apply Array.toList_inj.1
    simp

theorem exok_bytes {P : Program} {o : Oper} {σ : Nat → AV} {S T e : TypeId} {x : Operand} {f : Bool} {xs : List (List AV)} (ho : o.op = .convert S T x)
    (hS : P.underlying S = some (.slice e)) (he : P.underlying e = some (.int .u8)) (hT : P.underlying T = some .string) (hx : getS P σ x = .slice f 1 xs) (hb : bytesOk xs) :
    ExOK P o σ (.val (.string (bytesOf xs))) [] [] := by
  refine exok_plain [] rfl fun c hc σ' tm w lim X hg hfp hsim => ⟨.string (bytesOf xs), ?_, .val rfl⟩
  rw [ho] at hg
  have hv : Rep w lim (.slice f 1 xs) (Act.eval ⟨tm, []⟩ x) := opnd hc hsim hx (hg x (by simp [Op.operands]))
  generalize hu : Act.eval ⟨tm, []⟩ x = u at hv
  cases hv with
  | sliceN =>
    simp only [execOp, ho, hu, Sem.run_bind, run_convert_bytes_string w S T e none 0 0 hS he hT]
    rfl
  | @sliceE _ _ a cap hf =>
    have hl := run_loadCells_list (P := P) w a [] (fun j v hj => by simp at hj)
    simp only [execOp, ho, hu, Sem.run_bind, run_convert_bytes_string w S T e _ _ _ hS he hT, run_bytesToString w a 0 cap [] hl, Result.andThen_ok, Sem.run_pure]
    rfl
  | @sliceC _ _ _ b p cap us hls hc1 hf hle hlim hus hcell hrep =>
    obtain ⟨ns, h1, h2⟩ := bytes_cells xs us hb (by rw [hus]; omega) hrep
    subst h1
    have hl := run_loadCells_list (P := P) w ⟨b, p, none⟩ (ns.map (Value.int .u8)) (fun j v hj => by rw [add_none]; exact hcell j v hj)
    rw [hus, Nat.mul_one] at hl
    simp only [execOp, ho, hu, Sem.run_bind, run_convert_bytes_string w S T e _ _ _ hS he hT, run_bytesToString w ⟨b, p, none⟩ xs.length cap ns hl, Result.andThen_ok, Sem.run_pure]
    rw [foldl_push]
    have he : ByteArray.empty.data = #[] := rfl
    simp only [bytesOf, h2, he, Array.empty_append]

/-- A new block: nothing that was there has changed. -/
theorem wstep_alloc (w : World) (lim : Nat → Nat) (arr : Array Value) (t : TypeId) (n : Nat) (S : Nat → Prop) :
    WStep w lim (w.alloc (.cells arr t)) (fun b => if b = w.heap.size then n else lim b) S where
  os := rfl
  tape := rfl
  output := rfl
  size := by simp
  frz a := RowKit.frozen?_alloc_cells w arr t a
  blk b hb _ := ⟨heap_alloc_old w _ hb, if_neg (by omega)⟩
  ext b hb := ⟨by show lim b ≤ if b = w.heap.size then n else lim b; rw [if_neg (by omega)]; exact Nat.le_refl _, fun o u _ hu => by rw [World.cell?_alloc_lt w _ _ hb]; exact hu⟩

theorem heap_new (w : World) (arr : Array Value) (t : TypeId) : (w.alloc (.cells arr t)).heap[w.heap.size]? = some (.cells arr t (0, 0)) := heap_alloc_new w _

end Go.AM
