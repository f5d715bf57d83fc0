/- L23g, L23h: texts of the proof, put together. -/
import Derived.Test.YtljejgmcgddppaaGreatM5

section
namespace Go.Proofs.YtljejgmcgddppaaGreat
open Go Go.AM
set_option linter.unusedSimpArgs false
set_option linter.unusedVariables false
set_option maxRecDepth 100000
theorem shl_i {a b : Int} (h0 : 0 ≤ b) (h1 : b ≤ 62) (h2 : 0 ≤ a) (h3 : a * 2 ^ b.toNat < 2 ^ 63) : iop .shl .i64 a b = a * 2 ^ b.toNat := by
 have hmin : min b.toNat IntKind.i64.bits = b.toNat := by
  have : IntKind.i64.bits = 64 := rfl
  omega
 simp only [iop, hmin]
 have hp := pow_pos2 b.toNat
 have : 0 ≤ a * 2 ^ b.toNat := Int.mul_nonneg h2 (by omega)
 rw [wrap_of (by omega) h3]
theorem s78 (a b : Int) : Ret (fun r => ∃ k q : Int, r = (q * 2 ^ k.toNat, k) ∧ 6 ≤ k ∧ k ≤ 16 ∧ 0 ≤ q ∧ q < 2 ^ (16 - k).toNat) (g78 a b) := by
 rw [g78_eq]
 refine ret_bind (place b 11 (by omega) (by omega)) fun x hx => ?_
 obtain ⟨k, hk⟩ : ∃ k, k = 6 + x := ⟨_, rfl⟩
 have e1 : iop .add .i64 6 x = k := by rw [add_i (by omega) (by omega), hk]
 have e2 : iop .sub .i64 16 k = 16 - k := sub_i (by omega) (by omega)
 have w1 : IntKind.wrap .u64 (16 - k) = 16 - k := wrapu_of (by omega) (by omega)
 have w2 : IntKind.wrap .u64 k = k := wrapu_of (by omega) (by omega)
 have hp : (2 : Int) ^ (16 - k).toNat < 2 ^ 62 := by
  have := pow_le2 (m := (16 - k).toNat) (n := 16) (by omega)
  have e : (2 : Int) ^ 16 = 65536 := by decide
  have e : (2 : Int) ^ 62 = 4611686018427387904 := by decide
  omega
 have hp1 := pow_pos2 (16 - k).toNat
 rw [e1, e2, w1, w2, shl1 (by omega)]
 refine ret_req (by omega) (ret_bind (place a _ (by omega) hp) fun q hq => ret_req (by omega) (ret_some ⟨k, q, ?_, by omega, by omega, hq.1, hq.2⟩))
 have hm : q * 2 ^ k.toNat < 2 ^ 63 := by
  have h1 : q * 2 ^ k.toNat ≤ 2 ^ (16 - k).toNat * 2 ^ k.toNat := Int.mul_le_mul_of_nonneg_right (by omega) (by have := pow_pos2 k.toNat; omega)
  rw [← Int.pow_add, show (16 - k).toNat + k.toNat = 16 by omega] at h1
  have e : (2 : Int) ^ 16 = 65536 := by decide
  have e : (2 : Int) ^ 63 = 9223372036854775808 := by decide
  omega
 rw [shl_i (by omega) (by omega) hq.1 hm]
theorem s47 (a b : Int) : Ret (fun r => ∃ c : Cap, r = capV c ∧ capOk c = true) (g47 a b) := by
 rw [g47_eq]
 refine ret_bind (s78 a b) fun r ⟨k, q, hr, h1, h2, h3, h4⟩ => ?_
 subst hr
 refine ret_some ⟨⟨1, q * 2 ^ k.toNat, k, 7, 0, 0, false⟩, rfl, ?_⟩
 have hm : (q + 1) * 2 ^ k.toNat ≤ 65536 := by
  have h5 : (q + 1) * 2 ^ k.toNat ≤ 2 ^ (16 - k).toNat * 2 ^ k.toNat := Int.mul_le_mul_of_nonneg_right (by omega) (by have := pow_pos2 k.toNat; omega)
  rw [← Int.pow_add, show (16 - k).toNat + k.toNat = 16 by omega] at h5
  have e : (2 : Int) ^ 16 = 65536 := by decide
  omega
 rw [Int.add_mul, Int.one_mul] at hm
 have h6 : 0 ≤ q * 2 ^ k.toNat := Int.mul_nonneg h3 (by have := pow_pos2 k.toNat; omega)
 have h7 : q * 2 ^ k.toNat % 2 ^ k.toNat = 0 := Int.mul_emod_left ..
 simp [capOk, sizeOk, rngOk, h6, h7]
 omega
theorem ret_caps (c : Cap) (obj bits level width off cnt : Int) : ∃ cs : List Cap, retCells c obj bits level width off cnt = cs.map capc ∧ (cs.length : Int) ≤ max 0 cnt := by
 unfold retCells
 split
 ·refine ⟨(List.range cnt.toNat).map fun (j : Nat) => ⟨obj, c.base + off + (j : Int) * 2 ^ bits.toNat, bits, c.rights, if obj = 3 then width else 0, if obj = 3 then level else 0, c.device⟩, ?_, by simp; omega⟩
  rw [List.map_map]; rfl
 ·exact ⟨[], rfl, by simp; omega⟩
theorem l48 (rec0 : List V → Option Bool) (l : List Entry) (hn : l.length < 2 ^ 63) (cs : List Cap) (m i : Nat) (hi : i < cs.length) (ih' : Ret (fun _ => True) (rec0 [.l (l.map entryc), .l (cs.map capc), .i (hitZ l.length m), .i (iop .add .i64 (i : Int) 1)])) :
  Ret (fun _ => True) (g48L0 rec0 FUEL (l.map entryc) (cs.map capc) (hitZ l.length m) (i : Int) 0) := by
 refine ret_loop (P := fun _ => True) (F := fun k2 (_ : Unit) z => g48L0 rec0 k2 (l.map entryc) (cs.map capc) (hitZ l.length m) (i : Int) z) (n := l.length) (fun _ _ => True) hn (fun k2 t _ ht _ ih2 => ?_) (fun k2 _ _ => ?_) () trivial
 ·show Ret _ (g48L0 _ (k2 + 1) _ _ _ _ _)
  rw [g48L0_eq, List.length_map, if_pos (lss_t ht)]
  refine ret_eq (elem_entries ht _) ?_
  simp only [entryV, d2, d4, d8, d16]
  have nxt : Ret (fun _ => True) (g48L0 rec0 k2 (l.map entryc) (cs.map capc) (hitZ l.length m) (i : Int) (iop .add .i64 (t : Int) 1)) := by rw [inc_i ht hn]; exact ih2 () trivial
  refine ret_ite (fun h1 => ?_) fun h1 => ?_
  ·rw [hitZ_geq, decide_eq_true_eq] at h1
   refine ret_ite (fun h2 => ?_) fun h2 => ?_
   ·rw [s81, Option.bind_some]
    refine ret_eq (congrArg (fun z => elemK (l.map entryc) z _ _) (hitZ_lt h1)) ?_
    refine ret_eq (elem_entries h1 _) ?_
    simp only [entryV, d2, d4, d8, d16]
    rw [s81, Option.bind_some, s80, Option.bind_some, Option.bind_some]
    refine ret_eq (elem_caps hi _) ?_
    simp only [capV]
    rw [s81, Option.bind_some, s82, Option.bind_some]
    exact ret_ite (fun _ => ret_ite (fun _ => ret_some trivial) fun _ => nxt) fun _ => nxt
   ·rw [s81, Option.bind_some]
    refine ret_eq (elem_caps hi _) ?_
    simp only [capV]
    rw [s81, Option.bind_some, s82, Option.bind_some]
    exact ret_ite (fun _ => ret_some trivial) fun _ => nxt
  ·rw [s81, Option.bind_some]
   refine ret_eq (elem_caps hi _) ?_
   simp only [capV]
   rw [s81, Option.bind_some, s82, Option.bind_some]
   exact ret_ite (fun _ => ret_some trivial) fun _ => nxt
 ·show Ret _ (g48L0 _ (k2 + 1) _ _ _ _ _)
  rw [g48L0_eq, List.length_map, if_neg (lss_f (Nat.le_refl _))]
  exact ih'
theorem s48 (l : List Entry) (hn : l.length < 2 ^ 63) (j : Id) (cs : List Cap) (hc : cs.length < 2 ^ 63) : Ret (fun _ => True) (g48 (l.map entryc) j.core j.op j.part (cs.map capc)) := by
 rw [g48_eq, s79 l hn j, Option.bind_some]
 generalize hm : fst' (idE j) l = m
 refine ret_loop (F := fun k (_ : Unit) z => g48L1 k (l.map entryc) (cs.map capc) (hitZ l.length m) z) (n := cs.length) (fun _ _ => True) hc (fun k i _ hi _ ih => ?_) (fun k _ _ => ?_) () trivial
 ·show Ret _ (g48L1 (k + 1) _ _ _ _)
  rw [g48L1_eq, List.length_map, if_pos (lss_t hi)]
  exact l48 _ l hn cs m i hi (by rw [inc_i hi hc]; exact ih () trivial)
 ·show Ret _ (g48L1 (k + 1) _ _ _ _)
  rw [g48L1_eq, List.length_map, if_neg (lss_f (Nat.le_refl _))]
  exact ret_some trivial
structure EOk (e : Entry) : Prop where
 c0 : 0 ≤ e.core
 c1 : e.core < 4
 s0 : 0 ≤ e.slot
 s1 : e.slot < 16
 ic : e.node.id.core = e.core
 o1 : 1 ≤ e.node.id.op
 o2 : e.node.id.op ≤ 40
 p0 : 0 ≤ e.node.id.part
 p1 : e.node.id.part < 3
 ok : nodeOk e.node = true
structure FOk (l : List Entry) (n : Nat) : Prop where
 len : l.length ≤ n
 all : ∀ e ∈ l, EOk e
theorem nodeOk_of {n : Node} (h : nodeOk n = true) : idOk n.id = true ∧ capOk n.cap = true ∧ n.path.length ≤ 8 ∧ (List.range n.path.length).all (pathAt n) = true := by
 simp only [nodeOk, Bool.and_eq_true, decide_eq_true_eq] at h
 exact ⟨h.1.1.1, h.1.1.2, h.1.2, h.2⟩
theorem FOk.few {l : List Entry} {n : Nat} (h : FOk l n) (hn : n ≤ 100) : FewE l := ⟨by have := h.len; omega, fun e he => by have := (nodeOk_of (h.all e he).ok).2.2.1; omega⟩
theorem adds_ok {l m : List Entry} {x : Entry} {n : Nat} (h : FOk l n) (hx : EOk x) (ha : m = l ∨ Adds l x m) : FOk m (n + 1) := by
 rcases ha with rfl | ⟨i, hi, _, _, rfl⟩
 ·exact ⟨by have := h.len; omega, h.all⟩
 ·refine ⟨by have := h.len; simp; omega, fun e he => ?_⟩
  simp only [List.mem_append, List.mem_singleton] at he
  rcases he with (he | rfl) | he
  ·exact h.all e (List.mem_of_mem_take he)
  ·exact hx
  ·exact h.all e (List.mem_of_mem_drop he)
theorem root_ok (i : Id) (c : Cap) (hi : idOk i = true) (hc : capOk c = true) : nodeOk ⟨i, [], c⟩ = true := by simp [nodeOk, hi, hc]
theorem child_ok {s : Node} {i : Id} {c : Cap} (h : ChildOk s i c) : nodeOk (childOf s i c) = true := by
 obtain ⟨k1, k2, k3, k4⟩ := nodeOk_of h.src
 have hr := h.room
 simp only [nodeOk, childOf, Bool.and_eq_true, decide_eq_true_eq, h.id, h.cap, true_and, List.length_append, List.length_cons, List.length_nil]
 refine ⟨by omega, ?_⟩
 rw [List.all_eq_true] at k4 ⊢
 intro j hj
 rw [List.mem_range] at hj
 by_cases hjl : j < s.path.length
 ·have := k4 j (List.mem_range.2 hjl)
  simp only [pathAt, List.getElem?_eq_getElem hjl] at this
  simp only [pathAt, List.getElem?_append_left hjl, List.getElem?_eq_getElem hjl, List.take_append_of_le_length (Nat.le_of_lt hjl)]
  simp only [Bool.and_eq_true, decide_eq_true_eq] at this ⊢
  refine ⟨⟨this.1.1, fun he => ?_⟩, this.2⟩
  have hf := h.fresh
  rw [← he] at hf
  simp at hf
 ·have hje : j = s.path.length := by omega
  subst hje
  simp only [pathAt, List.getElem?_append_right (Nat.le_refl _), Nat.sub_self, List.getElem?_cons_zero, List.take_left]
  simp only [Bool.and_eq_true, decide_eq_true_eq]
  refine ⟨⟨k1, fun he => h.ne he.symm⟩, ?_⟩
  rw [Bool.not_eq_true', ← Bool.not_eq_true, List.contains_iff_mem]
  intro hm
  obtain ⟨t, ht, hte⟩ := List.getElem_of_mem hm
  have := k4 t (List.mem_range.2 ht)
  simp only [pathAt, List.getElem?_eq_getElem ht, hte] at this
  simp at this
theorem l24 (src : Node) (hs : src.path.length ≤ 20) (root : Bool) (op core slot : Int) (hc0 : 0 ≤ core) (hc1 : core < 4) (hs0 : 0 ≤ slot) (hs1 : slot < 8) (h1 : 1 ≤ op) (h2 : op ≤ 40) (cs : List Cap) (hcs : cs.length ≤ 3) (l : List Entry) (n : Nat) (hn : n ≤ 60) (h : FOk l n) :
  Ret (fun r => ∃ m, FOk m (n + 3) ∧ r = m.map entryc) (g24L0 FUEL (l.map entryc) op core slot src.id.core src.id.op src.id.part (idCells src.path) src.cap.kind src.cap.base src.cap.bits src.cap.rights src.cap.width src.cap.level src.cap.device (cs.map capc) 0) := by
 refine ret_loop (F := fun k (s : LL) z => g24L0 k s op core slot src.id.core src.id.op src.id.part (idCells src.path) src.cap.kind src.cap.base src.cap.bits src.cap.rights src.cap.width src.cap.level src.cap.device (cs.map capc) z) (n := cs.length) (fun i s => ∃ m, FOk m (n + i) ∧ s = m.map entryc) (by omega) (fun k i s hi hj ih => ?_) (fun k s hj => ?_) _ ⟨l, h, rfl⟩
 ·obtain ⟨m, hm, rfl⟩ := hj
  show Ret _ (g24L0 (k + 1) _ _ _ _ _ _ _ _ _ _ _ _ _ _ _ _ _)
  rw [g24L0_eq, List.length_map, if_pos (lss_t hi)]
  refine ret_eq (elem_caps hi _) ?_
  simp only [capV]
  refine ret_bind (s52 src hs ⟨core, op, (i : Int)⟩ cs[i]) fun r hr => ?_
  rcases hr with ⟨e, he, rfl⟩ | ⟨hk, rfl⟩
  ·refine ret_ite (fun _ => ret_some ⟨m, ⟨by have := hm.len; omega, hm.all⟩, rfl⟩) fun hh => ?_
   simp only [CQ] at hh
   exact absurd hh (by omega)
  ·refine ret_ite (fun hh => absurd hh (by simp [cop])) fun _ => ?_
   have ho := nodeOk_of (child_ok hk)
   have hx : EOk ⟨core, slot + i, childOf src ⟨core, op, (i : Int)⟩ cs[i]⟩ := ⟨hc0, hc1, by show 0 ≤ slot + i; omega, by show slot + i < 16; omega, rfl, h1, h2, by show (0 : Int) ≤ i; omega, by show (i : Int) < 3; omega, child_ok hk⟩
   have ea : iop .add .i64 slot (i : Int) = slot + i := add_i (by omega) (by omega)
   rw [ea]
   refine ret_bind (s49 m (hm.few (by omega)) ⟨core, slot + i, childOf src ⟨core, op, (i : Int)⟩ cs[i]⟩ (by have := ho.2.2.1; show (childOf src ⟨core, op, (i : Int)⟩ cs[i]).path.length ≤ 20; omega)) fun r ⟨m', hm', hr⟩ => ?_
   subst hr
   rw [inc_i hi (by omega)]
   exact ih _ ⟨m', adds_ok hm hx hm', rfl⟩
 ·obtain ⟨m, hm, rfl⟩ := hj
  show Ret _ (g24L0 (k + 1) _ _ _ _ _ _ _ _ _ _ _ _ _ _ _ _ _)
  rw [g24L0_eq, List.length_map, if_neg (lss_f (Nat.le_refl _))]
  exact ret_some ⟨m, ⟨by have := hm.len; omega, hm.all⟩, rfl⟩
theorem s24r (l : List Entry) (n : Nat) (hn : n ≤ 60) (h : FOk l n) (core slot op base bits : Int) (hc0 : 0 ≤ core) (hc1 : core < 4) (hs0 : 0 ≤ slot) (hs1 : slot < 8) (h1 : 1 ≤ op) (h2 : op ≤ 40) :
    Ret (fun r => ∃ m, FOk m (n + 3) ∧ r = m.map entryc) ((g47 base bits).bind fun r14 =>
 (g48 (l.map entryc) 0 0 0 (([] : LL) ++ [[I r14.1, I r14.2.1, I r14.2.2.1, I r14.2.2.2.1, I r14.2.2.2.2.1, I r14.2.2.2.2.2.1, AV.val (.bool r14.2.2.2.2.2.2)]])).bind fun (r21 : Bool) =>
 if r21 = true then some (l.map entryc) else
 (g49 (l.map entryc) core slot core op 0 ([] : LL) r14.1 r14.2.1 r14.2.2.1 r14.2.2.2.1 r14.2.2.2.2.1 r14.2.2.2.2.2.1 r14.2.2.2.2.2.2).bind fun (r22 : LL) => some (r22)) := by
  refine ret_bind (s47 base bits) fun r ⟨c, hr, hc⟩ => ?_
  subst hr
  have hl := h.len
  refine ret_bind (s48 l (by omega) ⟨0, 0, 0⟩ [c] (by simp)) fun b _ => ?_
  refine ret_ite (fun _ => ret_some ⟨l, ⟨by omega, h.all⟩, rfl⟩) fun _ => ?_
  have hi : idOk ⟨core, op, 0⟩ = true := by simp [idOk]; omega
  have hx : EOk ⟨core, slot, ⟨⟨core, op, 0⟩, [], c⟩⟩ := ⟨hc0, hc1, hs0, by show slot < 16; omega, rfl, h1, h2, Int.le_refl _, by show (0 : Int) < 3; omega, root_ok _ _ hi hc⟩
  refine ret_bind (s49 l (h.few (by omega)) ⟨core, slot, ⟨⟨core, op, 0⟩, [], c⟩⟩ (by simp)) fun r ⟨m', hm', hr⟩ => ?_
  subst hr
  have := adds_ok h hx hm'
  exact ret_some ⟨m', ⟨by have := this.len; omega, this.all⟩, rfl⟩
theorem s24 (l : List Entry) (n : Nat) (hn : n ≤ 60) (h : FOk l n) (root copy : Bool) (src core slot kind base bits count rights op : Int) (h1 : 1 ≤ op) (h2 : op ≤ 40) :
  Ret (fun r => ∃ m, FOk m (n + 3) ∧ r = m.map entryc) (g24 (l.map entryc) root src core slot kind base bits count rights copy op) := by
 have hl := h.len
 rw [g24_eq]
 refine ret_bind (place core 4 (by omega) (by omega)) fun c hc => ret_bind (place slot 8 (by omega) (by omega)) fun s hs => ?_
 refine ret_ite (fun _ => s24r l n hn h c s op base bits hc.1 hc.2 hs.1 hs.2 h1 h2) fun _ => ?_
 refine ret_ite (fun _ => s24r l n hn h c s op base bits hc.1 hc.2 hs.1 hs.2 h1 h2) fun h3 => ?_
 simp only [CQ, List.length_map] at h3
 rw [List.length_map]
 refine ret_bind (place src _ (by omega) (by omega)) fun i hi => ?_
 have hil : i.toNat < l.length := by omega
 refine elem_entries_at hi.1 hil ?_
 simp only [entryV, d2, d4, d8, d16]
 have he := h.all _ (List.getElem_mem hil)
 have ho := nodeOk_of he.ok
 generalize l[i.toNat] = e at he ho
 refine ret_bind (place rights 8 (by omega) (by omega)) fun r28 _ => ?_
 rw [s50, Option.bind_some]
 refine ret_ite (fun _ => ?_) fun _ => ?_
 ·refine ret_bind (place kind 6 (by omega) (by omega)) fun r36 h36 => ret_bind (place bits 10 (by omega) (by omega)) fun r37 h37 => ?_
  have e1 : iop .add .i64 6 r37 = 6 + r37 := add_i (by omega) (by omega)
  have e2 : iop .sub .i64 (iop .add .i64 1 r36) 1 = r36 := by rw [add_i (by omega) (by omega), sub_i (by omega) (by omega)]; omega
  rw [e1, e2]
  refine elem_ints_at (l := [6 + r37, 12, 12, 6, 10, 16]) h36.1 (by simp; omega) ?_
  have hb : ∀ x ∈ [6 + r37, 12, 12, 6, 10, 16], 0 ≤ x ∧ x ≤ 16 := by
   intro x hx
   simp only [List.mem_cons, List.not_mem_nil, or_false] at hx
   omega
  have hb' := hb _ (List.getElem_mem (show r36.toNat < [6 + r37, 12, 12, 6, 10, 16].length by simp; omega))
  generalize [6 + r37, 12, 12, 6, 10, 16][r36.toNat]'(by simp; omega) = r38 at hb'
  refine ret_bind (place rights 2 (by omega) (by omega)) fun r39 _ => ret_bind (place base 8 (by omega) (by omega)) fun r40 _ => ?_
  refine ret_req (by rw [wrapu_of (by omega) (by omega)]; omega) (ret_bind (place count 3 (by omega) (by omega)) fun r41 h41 => ?_)
  rw [s51, Option.bind_some]
  refine ret_ite (fun _ => ret_some ⟨l, ⟨by omega, h.all⟩, rfl⟩) fun _ => ?_
  obtain ⟨cs, hcs, hcl⟩ := ret_caps ⟨e.node.cap.kind, e.node.cap.base, e.node.cap.bits, e.node.cap.rights, e.node.cap.width, e.node.cap.level, e.node.cap.device⟩ (iop .add .i64 1 r36) r38 r39 32 (iop .shl .i64 r40 (IntKind.wrap .u64 r38)) (iop .add .i64 1 r41)
  rw [hcs]
  have e3 : iop .add .i64 1 r41 = 1 + r41 := add_i (by omega) (by omega)
  rw [e3] at hcl
  refine ret_bind (s48 l (by omega) e.node.id cs (by omega)) fun b _ => ?_
  refine ret_ite (fun _ => ret_some ⟨l, ⟨by omega, h.all⟩, rfl⟩) fun _ => ?_
  exact l24 e.node (by omega) true op c s hc.1 hc.2 hs.1 hs.2 h1 h2 cs (by omega) l n hn h
 ·exact l24 e.node (by omega) true op c s hc.1 hc.2 hs.1 hs.2 h1 h2 [⟨e.node.cap.kind, e.node.cap.base, e.node.cap.bits, iop .and .i64 e.node.cap.rights r28, e.node.cap.width, e.node.cap.level, e.node.cap.device⟩] (by simp) l n hn h
def stepV (s : Step) : Bool × Int × Int × Int × Int × Int × Int × Int × Int × Bool := (s.root, s.src, s.core, s.slot, s.kind, s.base, s.bits, s.count, s.rights, s.copy)
theorem elem_steps {γ : Type} {l : List Step} {i : Nat} (h : i < l.length) (k : (Bool × Int × Int × Int × Int × Int × Int × Int × Int × Bool) → Option γ) : elemK (l.map stepc) (i : Int) [.bool, .int .i64, .int .i64, .int .i64, .int .i64, .int .i64, .int .i64, .int .i64, .int .i64, .bool] k = k (stepV l[i]) := elem_map (f := stepc) (sh := [.bool, .int .i64, .int .i64, .int .i64, .int .i64, .int .i64, .int .i64, .int .i64, .int .i64, .bool]) (v := stepV) (fun _ => rfl) h k
theorem s8 (l : List Step) (hn : l.length < 2 ^ 63) : Ret (fun r => ∃ m, FOk m 30 ∧ r = m.map entryc) (g8 (l.map stepc)) := by
 rw [g8_eq]
 have key : ∀ (d i fuel : Nat) (m : List Entry), i + d = 41 → d < fuel → FOk m 30 → Ret (fun r => ∃ m, FOk m 30 ∧ r = m.map entryc) (g8L0 fuel (l.map stepc) (m.map entryc) (i : Int)) := by
  intro d
  induction d with
  | zero =>
   intro i fuel m hi hf hm
   obtain ⟨q, rfl⟩ : ∃ q, fuel = q + 1 := ⟨fuel - 1, by omega⟩
   rw [g8L0_eq]
   refine ret_ite (fun _ => ?_) fun _ => ret_some ⟨m, hm, rfl⟩
   rw [if_neg (by simp only [CQ]; omega)]
   exact ret_some ⟨m, hm, rfl⟩
  | succ d ih =>
   intro i fuel m hi hf hm
   obtain ⟨q, rfl⟩ : ∃ q, fuel = q + 1 := ⟨fuel - 1, by omega⟩
   rw [g8L0_eq]
   refine ret_ite (fun h1 => ?_) fun _ => ret_some ⟨m, hm, rfl⟩
   refine ret_ite (fun h2 => ?_) fun _ => ret_some ⟨m, hm, rfl⟩
   refine ret_ite (fun h3 => ?_) fun _ => ret_some ⟨m, hm, rfl⟩
   simp only [CQ, List.length_map] at h1 h2 h3
   have hil : i < l.length := by omega
   refine ret_eq (elem_steps hil _) ?_
   simp only [stepV]
   have e : iop .add .i64 (i : Int) 1 = ((i + 1 : Nat) : Int) := inc_i hil hn
   rw [e]
   refine ret_bind (s24 m 27 (by omega) ⟨by omega, hm.all⟩ _ _ _ _ _ _ _ _ _ _ _ (by omega) (by omega)) fun r ⟨m', hm', hr⟩ => ?_
   subst hr
   exact ih (i + 1) q m' (by omega) (by omega) hm'
 exact key 41 0 FUEL [] rfl (by have := @fuel63 41 (by omega); omega) ⟨by simp, by simp⟩
end Go.Proofs.YtljejgmcgddppaaGreat
end

section
namespace Go.Proofs.YtljejgmcgddppaaGreat
open Go Go.AM
set_option linter.unusedSimpArgs false
set_option linter.unusedVariables false
set_option maxRecDepth 100000
structure SOk (l : List Entry) (s : List Slot) : Prop where
 len : s.length = 12
 all : ∀ x ∈ s, x.op = 0 ∧ x.lock = zid ∧ (x.node = noNode ∨ ∃ e ∈ l, x.node = e.node)
theorem SOk.few {l : List Entry} {s : List Slot} {n : Nat} (h : SOk l s) (hf : FOk l n) : FewS s := by
 refine ⟨by have := h.len; omega, fun x hx => ?_⟩
 rcases (h.all x hx).2.2 with e | ⟨e, he, hne⟩
 ·rw [e]; simp [noNode]
 ·have := (nodeOk_of (hf.all e he).ok).2.2.1
  rw [hne]; omega
theorem s14 (l : List Entry) (n : Nat) (hn : n ≤ 60) (hf : FOk l n) (c : Int) : Ret (fun r => ∃ s, SOk l s ∧ r = s.map slotc) (g14 (l.map entryc) c) := by
 have hl := hf.len
 rw [g14_eq]
 refine ret_req (by decide) (ret_req (by decide) (ret_req (by decide) ?_))
 refine ret_loop (F := fun k (s : LL) z => g14L0 k (l.map entryc) c s z) (n := l.length) (fun i s => ∃ s', SOk l s' ∧ s = s'.map slotc) (by omega) (fun k i s hi hj ih => ?_) (fun k s hj => ?_) _ ⟨List.replicate 12 ⟨noNode, 0, zid⟩, ⟨rfl, fun x hx => ?_⟩, rfl⟩
 ·obtain ⟨s, hs, rfl⟩ := hj
  show Ret _ (g14L0 (k + 1) _ _ _ _)
  rw [g14L0_eq, List.length_map, if_pos (lss_t hi)]
  refine ret_eq (elem_entries hi _) ?_
  simp only [entryV, d2, d4, d8, d16]
  have nxt : Ret (fun r => ∃ s, SOk l s ∧ r = s.map slotc) (g14L0 k (l.map entryc) c (s.map slotc) (iop .add .i64 (i : Int) 1)) := by rw [inc_i hi (by omega)]; exact ih _ ⟨s, hs, rfl⟩
  refine ret_ite (fun _ => ?_) fun _ => nxt
  refine ret_eq (elem_entries hi _) ?_
  simp only [entryV, d2, d4, d8, d16]
  refine ret_ite (fun h1 => ?_) fun _ => nxt
  simp only [CQ] at h1
  refine ret_eq (elem_entries hi _) ?_
  simp only [entryV, d2, d4, d8, d16]
  refine ret_eq (elem_entries hi _) ?_
  simp only [entryV, d2, d4, d8, d16]
  have he := hf.all _ (List.getElem_mem hi)
  have hp := (nodeOk_of he.ok).2.2.1
  rw [s30 l[i].node (by omega), Option.bind_some]
  have h0 := he.s0
  have hsl := hs.len
  refine ret_req (by omega) (ret_req (by rw [List.length_map]; omega) (ret_req (by omega) (ret_req (by rw [List.length_map]; omega) ?_)))
  rw [inc_i hi (by omega)]
  refine ih _ ⟨s.modify l[i].slot.toNat (setN l[i].node), ⟨by rw [List.length_modify]; exact hsl, fun x hx => ?_⟩, set_node s _ l[i].node⟩
  obtain ⟨t, ht, rfl⟩ := List.getElem_of_mem hx
  rw [List.length_modify] at ht
  rw [List.getElem_modify]
  have ha := hs.all s[t] (List.getElem_mem ht)
  split
  ·exact ⟨ha.1, ha.2.1, .inr ⟨l[i], List.getElem_mem hi, rfl⟩⟩
  ·exact ha
 ·obtain ⟨s, hs, rfl⟩ := hj
  show Ret _ (g14L0 (k + 1) _ _ _ _)
  rw [g14L0_eq, List.length_map, if_neg (lss_f (Nat.le_refl _))]
  exact ret_some ⟨s, hs, rfl⟩
 ·rw [List.eq_of_mem_replicate hx]
  exact ⟨rfl, rfl, .inl rfl⟩
structure IOk (l : List Entry) (w : List Id) : Prop where
 len : w.length ≤ l.length
 all : ∀ i ∈ w, ∃ e ∈ l, e.node.id = i
theorem s12 (l : List Entry) (hl : l.length ≤ 60) (z : List Int) : Ret (fun r => ∃ w, IOk l w ∧ r = idCells w) (g12 (l.map entryc) (intCells z)) := by
 rw [g12_eq]
 refine ret_loop (F := fun k (s : LL) i => g12L0 k (l.map entryc) (intCells z) s i) (n := l.length) (fun i s => ∃ w : List Id, w.length ≤ i ∧ (∀ i ∈ w, ∃ e ∈ l, e.node.id = i) ∧ s = idCells w) (by omega) (fun k i s hi hj ih => ?_) (fun k s hj => ?_) _ ⟨[], by simp, by simp, rfl⟩
 ·obtain ⟨w, hw, hm, rfl⟩ := hj
  show Ret _ (g12L0 (k + 1) _ _ _ _)
  rw [g12L0_eq, List.length_map, if_pos (lss_t hi)]
  refine ret_bind (ret_at z _) fun r4 _ => ret_bind (place r4 2 (by omega) (by omega)) fun r5 _ => ?_
  rw [inc_i hi (by omega)]
  refine ret_ite (fun _ => ?_) fun _ => ih _ ⟨w, by omega, hm, rfl⟩
  refine ret_eq (elem_entries hi _) ?_
  simp only [entryV, d2, d4, d8, d16]
  refine ret_req (room_small (by rw [ids_len]; simp; omega) (by omega)) (ih _ ⟨w ++ [l[i].node.id], by simp; omega, fun x hx => ?_, by simp [idCells, idc]⟩)
  simp only [List.mem_append, List.mem_singleton] at hx
  rcases hx with hx | rfl
  ·exact hm x hx
  ·exact ⟨l[i], List.getElem_mem hi, rfl⟩
 ·obtain ⟨w, hw, hm, rfl⟩ := hj
  show Ret _ (g12L0 (k + 1) _ _ _ _)
  rw [g12L0_eq, List.length_map, if_neg (lss_f (Nat.le_refl _))]
  exact ret_some ⟨w, ⟨hw, hm⟩, rfl⟩
def stepM (k c : Int) (w : List Id) : Msg := ⟨k, 0, 3, c, 0, 1, 0, ⟨3, 9, 0⟩, 0, false, noReq, w, [], [], [], 0, noView, noState, noReport⟩
theorem s17 (k c : Int) (w : List Id) : g17 k c 3 9 0 (idCells w) = some (msgT (stepM k c w)) := g17_eq ..
theorem stepM_fits (k c : Int) (w : List Id) (hw : w.length ≤ 60) : (stepM k c w).Fits := by
 have hv : noView.Fits := ⟨by simp [noView], by simp [noView]⟩
 have hs : noState.Fits := by constructor <;> simp [noState]
 exact ⟨by simp [stepM, noReq, noNode], by simp [stepM]; omega, by simp [stepM], by simp [stepM], by simp [stepM], by simp [stepM], hv, hs, ⟨hv, hs, hv, hs⟩⟩
theorem valid6 (c : Int) (w : List Id) : validB (stepM 6 c w) = (coreOk c && ((decide (w.length ≤ 64) && w.all idOk) && true)) := by
 have e : validB (stepM 6 c w) = ((true && coreOk c) && ((((decide (w.length ≤ 64) && w.all idOk) && true)) && rest 6 (stepM 6 c w))) := rfl
 rw [e]
 have : rest 6 (stepM 6 c w) = true := by kernel_rfl
 rw [this, Bool.true_and, Bool.and_true]
theorem valid8 (c : Int) : validB (stepM 8 c []) = (coreOk c && true) := by kernel_rfl
theorem valid10 (c : Int) : validB (stepM 10 c []) = (coreOk c && true) := by kernel_rfl
theorem core4 {c : Int} (h0 : 0 ≤ c) (h1 : c < 4) : coreOk c = true := by simp [coreOk]; omega
def op9 : Id := ⟨3, 9, 0⟩
theorem rev1 (c : Int) (h0 : 0 ≤ c) (h1 : c < 4) (s : List Slot) (w : List Id) (hw : w.length ≤ 60) (hi : ∀ i ∈ w, idOk i = true) : hold c s [] (stepM 6 c w) = ⟨s.map (lockS w op9), [], [rep 7 0 (stepM 6 c w)], []⟩ := by
 have hv : validB (stepM 6 c w) = true := by
  rw [valid6, core4 h0 h1, List.all_eq_true.2 hi]
  simp; omega
 rw [hold, if_neg (by rw [hv]; simp [stepM]), if_neg (by simp [stepM]), if_pos (show (stepM 6 c w).kind = 6 from rfl)]
 rfl
theorem rev2 (c : Int) (h0 : 0 ≤ c) (h1 : c < 4) (s : List Slot) : hold c s [] (stepM 8 c []) = ⟨s, [⟨1, op9⟩], [rep 9 0 (stepM 8 c [])], []⟩ := by
 have hv : validB (stepM 8 c []) = true := by rw [valid8, core4 h0 h1]; rfl
 rw [hold, if_neg (by rw [hv]; simp [stepM]), if_neg (by simp [stepM]), if_neg (by simp [stepM]), if_pos (show (stepM 8 c []).kind = 8 from rfl)]
 rfl
theorem rev3 (c : Int) (h0 : 0 ≤ c) (h1 : c < 4) (s : List Slot) (mk : List Mark) : hold c s mk (stepM 10 c []) = ⟨s.map (sweepS op9), mk, [rep 11 0 (stepM 10 c [])], []⟩ := by
 have hv : validB (stepM 10 c []) = true := by rw [valid10, core4 h0 h1]; rfl
 rw [hold, if_neg (by rw [hv]; simp [stepM]), if_neg (by simp [stepM]), if_neg (by simp [stepM]), if_neg (by simp [stepM]), if_pos (show (stepM 10 c []).kind = 10 from rfl)]
 rfl
theorem elem_smap {γ : Type} (f : Slot → Slot) {l : List Slot} {i : Nat} (h : i < l.length) (k : ShsT slotSh → Option γ) : elemK ((l.map f).map slotc) (i : Int) slotSh k = k (slotV (f l[i])) := by
 have hi : i < (l.map f).length := by rw [List.length_map]; exact h
 rw [elem_slots hi, List.getElem_map]
theorem same_node (n : Node) (hn : n.path.length < 2 ^ 63) : g19 n.id.core n.id.op n.id.part (idCells n.path) n.cap.kind n.cap.base n.cap.bits n.cap.rights n.cap.width n.cap.level n.cap.device n.id.core n.id.op n.id.part (idCells n.path) n.cap.kind n.cap.base n.cap.bits n.cap.rights n.cap.width n.cap.level n.cap.device = some true := s19 n.id.core n.id.op n.id.part n.path hn n.cap.kind n.cap.base n.cap.bits n.cap.rights n.cap.width n.cap.level n.cap.device
theorem lock_node (w : List Id) (b : Id) (x : Slot) : (lockS w b x).node = x.node := by unfold lockS; split <;> rfl
theorem slot_rev {w : List Id} (hi : ∀ i ∈ w, idOk i = true) {x : Slot} (ho : x.op = 0) (hl : x.lock = zid) :
  busyS (lockS w op9 x) = w.contains x.node.id ∧ busyS (sweepS op9 (lockS w op9 x)) = false ∧ emptyS (sweepS op9 (lockS w op9 x)) = (w.contains x.node.id || emptyS x) := by
 have hz : emptyS x = true → w.contains x.node.id = false := by
  intro h
  rw [← Bool.not_eq_true, List.contains_iff_mem]
  intro hm
  have := hi _ hm
  rw [emptyS, decide_eq_true_eq] at h
  rw [h] at this
  simp [idOk, zid] at this
 by_cases h : emptyS x = false ∧ w.contains x.node.id = true
 ·have e : lockS w op9 x = { x with lock := op9 } := if_pos h
  have he : emptyS { x with lock := op9 } = false := h.1
  have hs : swept op9 { x with lock := op9 } = true := by rw [swept, he]; rfl
  rw [e, h.2]
  refine ⟨?_, ?_, ?_⟩
  ·simp [busyS, ho, cop, op9]
  ·rw [sweepS, if_pos hs]; simp [busyS, ho, cop, zid]
  ·rw [sweepS, if_pos hs]; rfl
 ·have e : lockS w op9 x = x := if_neg h
  have hc : w.contains x.node.id = false := by
   cases hh : emptyS x with
   | true => exact hz hh
   | false => cases hcc : w.contains x.node.id with
    | false => rfl
    | true => exact absurd ⟨hh, hcc⟩ h
  have hb : busyS x = false := by simp [busyS, ho, hl, cop, zid]
  have hs : swept op9 x = false := by rw [swept, hl]; simp [op9, zid]
  rw [e, hc, sweepS, if_neg (by rw [hs]; simp)]
  exact ⟨hb, hb, by simp⟩
theorem l5 (s : List Slot) (hl : s.length < 2 ^ 62) (hp : ∀ x ∈ s, x.node.path.length ≤ 20) (hz : ∀ x ∈ s, x.op = 0 ∧ x.lock = zid) (w : List Id) (hw : w.length ≤ 60) (hi : ∀ i ∈ w, idOk i = true) :
  g5L0 FUEL (s.map slotc) (idCells w) ((s.map (lockS w op9)).map slotc) ((s.map (lockS w op9)).map slotc) ((s.map fun x => sweepS op9 (lockS w op9 x)).map slotc) 0 = some true := by
 have := scan_all (F := fun k i => g5L0 k (s.map slotc) (idCells w) ((s.map (lockS w op9)).map slotc) ((s.map (lockS w op9)).map slotc) ((s.map fun x => sweepS op9 (lockS w op9 x)).map slotc) i) (n := s.length) (fin := some true) (bad := some false) (fun _ => true) (by omega) 0 (by omega)
  (fun k i _ h => by
   show g5L0 (k + 1) _ _ _ _ _ _ = _
   have hx := List.getElem_mem h
   have hpx := hp _ hx
   obtain ⟨b1, b2, b3⟩ := slot_rev hi (hz _ hx).1 (hz _ hx).2
   rw [g5L0_eq, List.length_map, if_pos (lss_t h), if_pos rfl, inc_i h (by omega)]
   refine (elem_slots h _).trans ?_
   simp only [slotV, d2, d4, d8, d16]
   rw [s18 w (by omega), Option.bind_some, id_eta]
   refine (elem_smap _ h _).trans ?_
   simp only [slotV, d2, d4, d8, d16]
   refine (elem_slots h _).trans ?_
   simp only [slotV, d2, d4, d8, d16]
   rw [lock_node, same_node s[i].node (by omega), Option.bind_some, if_neg (by simp)]
   refine (elem_smap _ h _).trans ?_
   simp only [slotV, d2, d4, d8, d16]
   refine (elem_slots h _).trans ?_
   simp only [slotV, d2, d4, d8, d16]
   rw [lock_node, same_node s[i].node (by omega), Option.bind_some, if_neg (by simp)]
   refine (elem_smap _ h _).trans ?_
   simp only [slotV, d2, d4, d8, d16]
   rw [s20, Option.bind_some, b1, if_neg (by simp)]
   refine (elem_smap _ h _).trans ?_
   simp only [slotV, d2, d4, d8, d16]
   rw [s20, Option.bind_some, b1, if_neg (by simp)]
   refine (elem_smap _ h _).trans ?_
   simp only [slotV, d2, d4, d8, d16, Function.comp_apply]
   rw [s20, Option.bind_some, b2, if_neg (by simp)]
   refine (elem_smap _ h _).trans ?_
   simp only [slotV, d2, d4, d8, d16, Function.comp_apply]
   rw [s21, Option.bind_some, b3]
   refine ite_goal (fun hc => ?_) fun hc => ?_
   ·rw [hc, if_neg (by simp)]
   ·refine (elem_slots h _).trans ?_
    simp only [slotV, d2, d4, d8, d16]
    rw [s21, Option.bind_some, Bool.not_eq_true] at *
    rw [hc, if_neg (by simp)])
  (fun k i h => by
   show g5L0 (k + 1) _ _ _ _ _ _ = _
   rw [g5L0_eq, List.length_map, if_neg (lss_f h), s7]; rfl)
 rw [if_pos (by simp)] at this
 exact this
theorem neq_f {a b : Int} (h : a = b) : ¬ cop .neq a b = true := by simp only [CQ]; exact fun g => g h
theorem s5 (c0 : Int) (sts : List Step) (hn : sts.length < 2 ^ 63) (pk : List Int) : g5 c0 (sts.map stepc) (intCells pk) = some true := by
 have key : Ret (fun r => r = true) (g5 c0 (sts.map stepc) (intCells pk)) := by
  rw [g5_eq]
  refine ret_bind (s8 sts hn) fun r ⟨f, hf, hr⟩ => ?_
  subst hr
  refine ret_bind (place c0 4 (by omega) (by omega)) fun c hc => ?_
  refine ret_bind (s14 f 30 (by omega) hf c) fun r ⟨s, hs, hr⟩ => ?_
  subst hr
  have hfl := hf.len
  refine ret_bind (s12 f (by omega) pk) fun r ⟨w, hw, hr⟩ => ?_
  subst hr
  have hfew := hs.few hf
  have hsl := hs.len
  have hwl : w.length ≤ 60 := by have := hw.len; omega
  have hwi : ∀ i ∈ w, idOk i = true := fun i hi => by
   obtain ⟨e, he, rfl⟩ := hw.all i hi
   exact (nodeOk_of (hf.all e he).ok).1
  rw [s16 s hfew, Option.bind_some]
  refine ret_bind_eq (s17 6 c w) ?_
  have e1 := s15 c s hfew [] (by simp) (stepM 6 c w) (stepM_fits 6 c w hwl)
  rw [rev1 c hc.1 hc.2 s w hwl hwi] at e1
  refine ret_bind_eq e1 ?_
  have fewA : FewS (s.map (lockS w op9)) := few_lock hfew w op9
  refine ret_bind_eq (s17 8 c []) ?_
  have e2 := s15 c (s.map (lockS w op9)) fewA [] (by simp) (stepM 8 c []) (stepM_fits 8 c [] (by simp))
  rw [rev2 c hc.1 hc.2] at e2
  refine ret_bind_eq e2 ?_
  refine ret_bind_eq (s17 10 c []) ?_
  have e3 := s15 c (s.map (lockS w op9)) fewA [⟨1, op9⟩] (by simp) (stepM 10 c []) (stepM_fits 10 c [] (by simp))
  have hmm : (s.map (lockS w op9)).map (sweepS op9) = s.map fun x => sweepS op9 (lockS w op9 x) := by rw [List.map_map]; rfl
  rw [rev3 c hc.1 hc.2, hmm] at e3
  refine ret_bind_eq e3 ?_
  refine ret_eq (if_neg (neq_f rfl)) (ret_eq (if_neg (neq_f rfl)) (ret_eq (if_neg (neq_f rfl)) ?_))
  refine ret_eq (elem_msgs (l := [rep 7 0 (stepM 6 c w)]) (i := 0) (by simp) _) ?_
  refine ret_eq (if_neg (neq_f rfl)) ?_
  refine ret_eq (elem_msgs (l := [rep 9 0 (stepM 8 c [])]) (i := 0) (by simp) _) ?_
  refine ret_eq (if_neg (neq_f rfl)) ?_
  refine ret_eq (elem_msgs (l := [rep 11 0 (stepM 10 c [])]) (i := 0) (by simp) _) ?_
  refine ret_eq (if_neg (neq_f rfl)) ?_
  refine ret_eq (if_neg (neq_f rfl)) ?_
  refine ret_eq (if_neg (neq_f rfl)) (ret_eq (if_neg (neq_f rfl)) (ret_eq (if_neg (neq_f rfl)) ?_))
  refine ret_eq (elem_marks (l := [⟨1, op9⟩]) (i := 0) (by simp) _) ?_
  refine ret_eq (if_neg (by simp [cop, op9])) ?_
  have hlen (g : Slot → Slot) : (List.length ((s.map g).map slotc) : Int) = (List.length (s.map slotc) : Int) := by simp
  refine ret_eq (if_neg (neq_f (hlen _))) (ret_eq (if_neg (neq_f (hlen _))) (ret_eq (if_neg (neq_f (hlen _))) ?_))
  exact ⟨true, l5 s (by omega) hfew.path (fun x hx => ⟨(hs.all x hx).1, (hs.all x hx).2.1⟩) w hwl hwi, rfl⟩
 obtain ⟨r, e, rfl⟩ := key
 exact e
end Go.Proofs.YtljejgmcgddppaaGreat
end
