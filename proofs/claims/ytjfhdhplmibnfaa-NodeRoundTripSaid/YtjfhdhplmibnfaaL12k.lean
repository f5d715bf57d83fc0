/- Nodes survive their encoding. -/
import Derived.Test.YtjfhdhplmibnfaaL12j
namespace Go.Proofs.Ytjfhdhplmibnfaa
open Go Go.AM
set_option linter.unusedSimpArgs false
set_option linter.unusedVariables false

theorem rdo_uv {lim v : Nat} (a r : List Int) (hv : v ≤ lim) (h2 : v < 2 ^ 62) : rdo lim (a ++ (uv v ++ r)) a.length = some (v, a.length + uvN v) := by
  have h62 : (2 : Nat) ^ 62 = 4611686018427387904 := by decide
  have h64 : (2 : Nat) ^ 64 = 18446744073709551616 := by decide
  have h9 : (128 : Nat) ^ 9 = 9223372036854775808 := by decide
  unfold rdo
  rw [List.drop_left, uv_rd 9 v 0 r (by omega) (by omega) (by omega) (fun h => absurd h (by decide))]
  simp only [hv, if_true]

theorem rid_id {i : Id} (hi : idOk i = true) (a r : List Int) : rid (a ++ (idB i ++ r)) a.length = some (i, a.length + (idB i).length) := by
  obtain ⟨h1, h2, h3, h4, h5, h6⟩ := idOk_of hi
  have h62 : (2 : Nat) ^ 62 = 4611686018427387904 := by decide
  have q1 := rdo_uv (lim := 32) (v := i.core.toNat) a (uv i.op.toNat ++ (uv i.part.toNat ++ r)) (by omega) (by omega)
  have q2 := rdo_uv (lim := 1073741824) (v := i.op.toNat) (a ++ uv i.core.toNat) (uv i.part.toNat ++ r) (by omega) (by omega)
  have q3 := rdo_uv (lim := 8) (v := i.part.toNat) (a ++ uv i.core.toNat ++ uv i.op.toNat) r (by omega) (by omega)
  simp only [List.append_assoc, List.length_append, uv_len] at q1 q2 q3
  unfold rid
  simp only [idB, List.append_assoc, List.length_append, uv_len, q1, q2, Nat.add_assoc] at q3 ⊢
  rw [q3]
  simp only [Option.some.injEq, Prod.mk.injEq, and_true]
  have e1 : ((i.core.toNat : Nat) : Int) = i.core := by omega
  have e2 : ((i.op.toNat : Nat) : Int) = i.op := by omega
  have e3 : ((i.part.toNat : Nat) : Int) = i.part := by omega
  rw [e1, e2, e3]

theorem rids_ids : ∀ (l : List Id) (a r : List Int), (∀ x ∈ l, idOk x = true) → rids (a ++ ((l.map idB).flatten ++ r)) l.length a.length = some (l, a.length + ((l.map idB).flatten).length)
  | [], a, r, _ => by simp [rids]
  | x :: l, a, r, h => by
    have q := rid_id (h x (by simp)) a ((l.map idB).flatten ++ r)
    have q2 := rids_ids l (a ++ idB x) r fun y hy => h y (by simp [hy])
    simp only [List.append_assoc, List.length_append] at q q2
    simp only [List.length_cons, List.map_cons, List.flatten_cons, List.append_assoc, rids, q, q2, List.length_append, Nat.add_assoc]

def preN (n : Node) : List Int := idB n.id ++ uv n.path.length ++ (n.path.map idB).flatten

theorem dec_pre {n : Node} (hn : nodeOk n = true) (r : List Int) : decN (preN n ++ r) = finN (preN n ++ r) n.id n.path (preN n).length := by
  obtain ⟨h1, h2, h3, h4⟩ := node_of hn
  have h62 : (2 : Nat) ^ 62 = 4611686018427387904 := by decide
  have q1 := rid_id h1 [] (uv n.path.length ++ ((n.path.map idB).flatten ++ r))
  have q2 := rdo_uv (lim := 8) (v := n.path.length) (idB n.id) ((n.path.map idB).flatten ++ r) h3 (by omega)
  have q3 := rids_ids n.path (idB n.id ++ uv n.path.length) r fun x hx => path_ok hn x hx
  simp only [List.nil_append, List.length_nil, Nat.zero_add] at q1
  simp only [List.append_assoc, List.length_append, uv_len] at q3
  unfold decN preN
  simp only [List.append_assoc, q1, q2, q3, List.length_append, uv_len, Nat.add_assoc]

theorem dec_bad {n : Node} (hn : nodeOk n = true) (r : List Int) (hr : r.length ≠ 10) : decN (preN n ++ r) = none := by
  rw [dec_pre hn]
  unfold finN
  rw [List.drop_left, if_neg]
  intro h
  have := h.1
  simp only [decOk, Bool.and_eq_true, decide_eq_true_eq] at this
  exact hr this.1.1

theorem capB {c : Cap} (h : capOk c = true) : encB c = capCode c := by unfold encB; rw [if_pos h]

theorem dec_good {n : Node} (hn : nodeOk n = true) : decN (nodeCode n) = some n := by
  obtain ⟨h1, h2, h3, h4⟩ := node_of hn
  obtain ⟨d1, d2⟩ := dec_enc h2
  rw [capB h2] at d1 d2
  have := dec_pre hn (capCode n.cap)
  have e : nodeCode n = preN n ++ capCode n.cap := by simp [nodeCode, preN]
  rw [e, this]
  unfold finN
  rw [List.drop_left, d1, if_pos ⟨d2, hn⟩]

theorem rids_le {bs : List Int} (hb : Bytes bs) : ∀ (c off o : Nat) (l : List Id), off ≤ bs.length → rids bs c off = some (l, o) → l.length = c ∧ off ≤ o ∧ o ≤ bs.length ∧ (bs.drop off).take (o - off) = (l.map idB).flatten
  | 0, off, o, l, ho, h => by
    simp only [rids, Option.some.injEq, Prod.mk.injEq] at h
    obtain ⟨rfl, rfl⟩ := h
    exact ⟨rfl, Nat.le_refl _, ho, by simp⟩
  | c + 1, off, o, l, ho, h => by
    simp only [rids] at h
    split at h
    · cases h
    · rename_i i o1 h1
      obtain ⟨a1, a2, a3⟩ := rid_le hb ho h1
      split at h
      · cases h
      · rename_i l' o2 h2
        simp only [Option.some.injEq, Prod.mk.injEq] at h
        obtain ⟨rfl, rfl⟩ := h
        obtain ⟨b1, b2, b3, b4⟩ := rids_le hb c o1 o2 l' a2 h2
        refine ⟨by simp [b1], by omega, b3, ?_⟩
        rw [take_part (b := o1) (by omega) b2, a3, b4]
        rfl

theorem dec_code {bs : List Int} (hb : Bytes bs) {n : Node} (h : decN bs = some n) : nodeOk n = true ∧ nodeCode n = bs := by
  unfold decN at h
  split at h
  · cases h
  · rename_i i o1 h1
    obtain ⟨a1, a2, a3⟩ := rid_le hb (Nat.zero_le _) h1
    split at h
    · cases h
    · rename_i c o2 h2
      obtain ⟨b1, b2, b3, b4⟩ := rdo_le hb a2 h2
      split at h
      · cases h
      · rename_i p o3 h3
        obtain ⟨c1, c2, c3, c4⟩ := rids_le hb c o2 o3 p b3 h3
        unfold finN at h
        split at h
        · rename_i hh
          simp only [Option.some.injEq] at h
          subst h
          have hbd : Bytes (bs.drop o3) := fun z hz => hb z (List.mem_of_mem_drop hz)
          have hcap := (node_of hh.2).2.1
          have he := enc_dec hbd hh.1
          rw [capB hcap] at he
          refine ⟨hh.2, ?_⟩
          unfold nodeCode
          dsimp only
          rw [he, c1, ← a3, ← b4, ← c4]
          have e : (bs.drop 0).take (o3 - 0) = (bs.drop 0).take (o1 - 0) ++ (bs.drop o1).take (o2 - o1) ++ (bs.drop o2).take (o3 - o2) := by
            rw [take_part (b := o2) (by omega) c2, take_part (b := o1) (by omega) (by omega)]
          rw [← e, List.drop_zero, Nat.sub_zero, List.take_append_drop]
        · cases h

theorem code_bytes (n : Node) (hn : nodeOk n = true) : Bytes (nodeCode n) := by
  have hid : ∀ i, Bytes (idB i) := fun i => bytes_both (bytes_both (uv_bytes _) (uv_bytes _)) (uv_bytes _)
  have hc : Bytes (capCode n.cap) := by
    have := enc_bytes n.cap
    rwa [capB (node_of hn).2.1] at this
  refine bytes_both (bytes_both (bytes_both (hid _) (uv_bytes _)) ?_) hc
  intro z hz
  obtain ⟨l, hl, hz⟩ := List.mem_flatten.1 hz
  obtain ⟨i, _, rfl⟩ := List.mem_map.1 hl
  exact hid i z hz

theorem code_len (n : Node) (hn : nodeOk n = true) : (nodeCode n).length ≤ 1000 := by
  have h8 := (node_of hn).2.2.1
  have key : ∀ l : List Id, ((l.map idB).flatten).length ≤ 33 * l.length := by
    intro l
    induction l with
    | nil => simp
    | cons x l ih =>
      have := idB_le x
      simp only [List.map_cons, List.flatten_cons, List.length_append, List.length_cons]
      omega
  have h1 := idB_le n.id
  have h2 := uvN_le n.path.length
  have h3 := key n.path
  have h4 : (capCode n.cap).length = 10 := rfl
  simp only [nodeCode, List.length_append, uv_len]
  omega

theorem s19 (a b c : Int) (p : List Int) (x4 x5 x6 : Int) (L : List Int) (hb : Bytes L) : g19 a b c (intCells p) x4 x5 x6 (byteCells L) = some true := by
  rw [g19_eq, bytes_len, ints_len, s42, Option.bind_some]
  refine ite_goal (fun _ => rfl) fun hL => ?_
  refine ite_goal (fun _ => rfl) fun hP => ?_
  have hL' : L.length ≤ 400 := by simp only [cop_lss_t, cop_lss_f, cop_leq_t, cop_leq_f, cop_gtr_t, cop_gtr_f, cop_geq_t, cop_geq_f, cop_eql_t, cop_eql_f, cop_neq_t, cop_neq_f, Bool.not_eq_true, Bool.not_eq_false, Bool.not_eq_true', Bool.not_eq_false', Bool.and_eq_true, Bool.or_eq_true, decide_eq_true_eq, decide_eq_false_iff_not, Bool.false_eq_true, Bool.true_eq_false, Option.bind_some, Option.some.injEq, false_iff, true_iff, iff_false, iff_true] at hL; omega
  have hP' : p.length ≤ 40 := by simp only [cop_lss_t, cop_lss_f, cop_leq_t, cop_leq_f, cop_gtr_t, cop_gtr_f, cop_geq_t, cop_geq_f, cop_eql_t, cop_eql_f, cop_neq_t, cop_neq_f, Bool.not_eq_true, Bool.not_eq_false, Bool.not_eq_true', Bool.not_eq_false', Bool.and_eq_true, Bool.or_eq_true, decide_eq_true_eq, decide_eq_false_iff_not, Bool.false_eq_true, Bool.true_eq_false, Option.bind_some, Option.some.injEq, false_iff, true_iff, iff_false, iff_true] at hP; omega
  obtain ⟨cp, hcp, h25⟩ := s25 x4 x5 x6 a b
  obtain ⟨n, hn, h2, h47⟩ := s47 a b c p (by omega) cp hcp
  obtain ⟨g1, g2, g3, g4⟩ := node_of hn
  have hB : nodeB n = nodeCode n := if_pos hn
  have hE : nodeE n = 0 := if_pos hn
  have hlen := code_len n hn
  have hbc := code_bytes n hn
  have ecode : nodeCode n = preN n ++ capCode n.cap := by simp [nodeCode, preN]
  have hcl : (capCode n.cap).length = 10 := rfl
  have hplen : (nodeCode n).length = (preN n).length + 10 := by rw [ecode, List.length_append, hcl]
  have q63 := s63 n (by omega)
  rw [hB, hE] at q63
  have q65 := s65 hbc (by omega)
  rw [dec_good hn] at q65
  have e1 : iop .sub .i64 ((nodeCode n).length : Int) 1 = (((nodeCode n).length - 1 : Nat) : Int) := by rw [sub_i (by omega) (by omega)]; omega
  have etake : (byteCells (nodeCode n)).take ((nodeCode n).length - 1) = byteCells (preN n ++ (capCode n.cap).take 9) := by
    rw [hplen, ecode]
    simp only [byteCells, ← List.map_take]
    congr 1
    rw [show (preN n).length + 10 - 1 = (preN n).length + 9 by omega, List.take_length_add_append]
  have esnoc : byteCells (nodeCode n) ++ (([] : List (List AV)) ++ [[AV.val (.int .u8 0)]]) = byteCells (preN n ++ (capCode n.cap ++ [0])) := by
    rw [ecode]
    simp [byteCells, u8c]
  have hbpre : Bytes (preN n) := fun z hz => hbc z (by rw [ecode]; exact List.mem_append.2 (.inl hz))
  have hbcap : Bytes (capCode n.cap) := fun z hz => hbc z (by rw [ecode]; exact List.mem_append.2 (.inr hz))
  have qt := s65 (bs := preN n ++ (capCode n.cap).take 9) (bytes_both hbpre fun z hz => hbcap z (List.mem_of_mem_take hz)) (by rw [List.length_append, List.length_take]; omega)
  rw [dec_bad hn _ (by rw [List.length_take]; omega)] at qt
  have qs := s65 (bs := preN n ++ (capCode n.cap ++ [0])) (bytes_both hbpre (bytes_both hbcap (by simp [Bytes]))) (by simp only [List.length_append, hcl, List.length_singleton]; omega)
  rw [dec_bad hn _ (by simp only [List.length_append, hcl, List.length_singleton]; omega)] at qs
  rw [h25, Option.bind_some]
  dsimp only
  rw [h47, Option.bind_some]
  dsimp only
  rw [q63, Option.bind_some]
  dsimp only
  rw [q65, Option.bind_some]
  dsimp only [nodeOut]
  refine ite_goal (fun h => absurd h (by decide)) fun _ => ?_
  refine ite_goal (fun h => absurd h (by decide)) fun _ => ?_
  rw [s46 _ _ _ _ (by omega), Option.bind_some]
  refine ite_goal (fun h => absurd h (by decide)) fun _ => ?_
  rw [bytes_len]
  refine ite_goal (fun h => absurd h (by simp only [cop_lss_t, cop_lss_f, cop_leq_t, cop_leq_f, cop_gtr_t, cop_gtr_f, cop_geq_t, cop_geq_f, cop_eql_t, cop_eql_f, cop_neq_t, cop_neq_f, Bool.not_eq_true, Bool.not_eq_false, Bool.not_eq_true', Bool.not_eq_false', Bool.and_eq_true, Bool.or_eq_true, decide_eq_true_eq, decide_eq_false_iff_not, Bool.false_eq_true, Bool.true_eq_false, Option.bind_some, Option.some.injEq, false_iff, true_iff, iff_false, iff_true]; omega)) fun _ => ?_
  rw [e1, reqK_pos (by omega), reqK_pos (by omega), Int.toNat_natCast, etake, qt, Option.bind_some,
    reqK_pos (room1 (by simp) (by rw [bytes_len]; omega)), reqK_pos (room1 (by rw [bytes_len]; omega) (by simp)), esnoc, qs, Option.bind_some]
  dsimp only [nodeOut]
  refine ite_goal (fun h => absurd h (by decide)) fun _ => ?_
  refine ite_goal (fun h => absurd h (by decide)) fun _ => ?_
  rw [s65 hb (by omega), Option.bind_some]
  cases hd : decN L with
  | none =>
    dsimp only [nodeOut]
    exact ite_goal (fun _ => rfl) fun h => absurd (by decide) h
  | some m =>
    obtain ⟨m1, m2⟩ := dec_code hb hd
    have r63 := s63 m (by have := (node_of m1).2.2.1; omega)
    rw [show nodeB m = nodeCode m from if_pos m1, show nodeE m = 0 from if_pos m1, m2] at r63
    dsimp only [nodeOut]
    refine ite_goal (fun h => absurd h (by decide)) fun _ => ?_
    rw [r63, Option.bind_some]
    dsimp only
    refine ite_goal (fun _ => ?_) fun h => absurd (by decide) h
    rw [reqK_pos (bytes_ok hb), reqK_pos (bytes_ok hb)]
    exact ite_goal (fun _ => rfl) fun h => absurd (by simp) h

end Go.Proofs.Ytjfhdhplmibnfaa
