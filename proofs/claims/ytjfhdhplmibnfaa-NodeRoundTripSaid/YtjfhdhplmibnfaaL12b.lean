/- The encoding of nodes. -/
import Derived.Test.YtjfhdhplmibnfaaL12a
namespace Go.Proofs.Ytjfhdhplmibnfaa
open Go Go.AM
set_option linter.unusedSimpArgs false
set_option linter.unusedVariables false

/-- The bytes of an integer: m groups of seven bits. -/
def uvm : Nat → Nat → List Int
  | 0, _ => []
  | 1, v => [((v % 128 : Nat) : Int)]
  | m + 2, v => ((v % 128 + 128 : Nat) : Int) :: uvm (m + 1) (v / 128)

def cnt : Nat → Nat → Nat
  | 0, _ => 0
  | k + 1, r => if r = 0 then 0 else 1 + cnt k (r / 128)

/-- binenc.AppendUvarint's bytes -/
def uvN (v : Nat) : Nat := 1 + cnt 10 (v / 128)
def uv (v : Nat) : List Int := uvm (uvN v) v

theorem cnt_le : ∀ (k r : Nat), cnt k r ≤ k
  | 0, _ => Nat.le_refl _
  | k + 1, r => by
    unfold cnt
    split
    · omega
    · have := cnt_le k (r / 128)
      omega

theorem uvm_len : ∀ (m v : Nat), (uvm m v).length = m
  | 0, _ => rfl
  | 1, _ => rfl
  | m + 2, v => by simp [uvm, uvm_len (m + 1)]

theorem uvm_bytes : ∀ (m v : Nat), Bytes (uvm m v)
  | 0, _ => by simp [uvm, Bytes]
  | 1, v => by
    intro z hz
    rw [uvm, List.mem_singleton] at hz
    omega
  | m + 2, v => by
    intro z hz
    rw [uvm, List.mem_cons] at hz
    rcases hz with rfl | hz
    · omega
    · exact uvm_bytes (m + 1) (v / 128) z hz

theorem shr7 (r : Nat) : iop .shr .u64 (r : Int) 7 = ((r / 128 : Nat) : Int) := by
  have hmin : min ((7 : Int)).toNat IntKind.u64.bits = 7 := by
    have : IntKind.u64.bits = 64 := rfl
    omega
  simp only [iop, hmin]
  rw [Int.fdiv_eq_ediv_of_nonneg _ (by decide)]
  rfl

theorem and127 (v : Nat) : IntKind.wrap .u8 (iop .and .u64 (v : Int) 127) = ((v % 128 : Nat) : Int) := by
  have h1 : (BitVec.ofInt 64 (v : Int) &&& BitVec.ofInt 64 127).toNat = v % 128 := by
    rw [BitVec.toNat_and, BitVec.toNat_ofInt, BitVec.toNat_ofInt]
    have h127 : ((127 : Int) % ((2 ^ 64 : Nat) : Int)).toNat = 2 ^ 7 - 1 := by decide
    rw [h127, Nat.and_two_pow_sub_one_eq_mod]
    have h65 : (2 : Nat) ^ 64 = 18446744073709551616 := by decide
    have h7 : (2 : Nat) ^ 7 = 128 := by decide
    rw [h65, h7]
    omega
  show IntKind.wrap .u8 (IntKind.wrap .u64 (((BitVec.ofInt 64 (v : Int) &&& BitVec.ofInt 64 127).toNat : Nat) : Int)) = _
  rw [h1, wrapu_of (by omega) (by have : (2 : Int) ^ 64 = 18446744073709551616 := by decide
                                  omega), wrap8]
  omega

theorem or128 {c : Nat} (h : c < 128) : iop .or .u8 (c : Int) 128 = ((c + 128 : Nat) : Int) := by
  have : ∀ c : Fin 128, iop .or .u8 ((c.val : Nat) : Int) 128 = ((c.val + 128 : Nat) : Int) := by decide +kernel
  exact this ⟨c, h⟩

theorem bytes_app (a b : List Int) : byteCells (a ++ b) = byteCells a ++ byteCells b := by simp [byteCells]
theorem bytes_both {a b : List Int} (ha : Bytes a) (hb : Bytes b) : Bytes (a ++ b) := by
  intro z hz
  rcases List.mem_append.1 hz with h | h
  · exact ha z h
  · exact hb z h

theorem set_byte : ∀ (a b : List Int) (y z : Int), setElem (byteCells (a ++ y :: b)) a.length 0 [AV.val (.int .u8 z)] = byteCells (a ++ z :: b)
  | [], b, y, z => by simp [setElem, byteCells, u8c, setCells, List.modify_zero_cons]
  | x :: a, b, y, z => by
    have ih := set_byte a b y z
    simp only [setElem, byteCells] at ih ⊢
    simp only [List.cons_append, List.map_cons, List.length_cons, List.modify_succ_cons, ih]

theorem l84a {x0 : List (List AV)} {v : Int} (hx : x0.length ≤ 1000000) : ∀ (k fuel r s : Nat), r < 128 ^ k → k < fuel → s + k ≤ 100 → ∀ (y : Option (List (List AV))),
    g84L0 FUEL x0 v ((s + cnt k r : Nat) : Int) 0 ((x0.length + (s + cnt k r) : Nat) : Int) ((x0.length + (s + cnt k r) : Nat) : Int) (splL (List.replicate (x0.length + (s + cnt k r)) [AV.val (.int .u8 0)]) x0) = y → g84L1 fuel x0 v s r = y := by
  have exit : ∀ (f s : Nat), s ≤ 100 → ∀ (y : Option (List (List AV))), g84L0 FUEL x0 v (s : Int) 0 ((x0.length + s : Nat) : Int) ((x0.length + s : Nat) : Int) (splL (List.replicate (x0.length + s) [AV.val (.int .u8 0)]) x0) = y → g84L1 (f + 1) x0 v s (0 : Nat) = y := by
    intro f s hs y hy
    have ha : iop .add .i64 (x0.length : Int) (s : Int) = ((x0.length + s : Nat) : Int) := by rw [add_i (by omega) (by omega)]; omega
    rw [g84L1_eq, if_neg (by decide), ha, reqK_pos ⟨by omega, by unfold roomMax; omega⟩, Int.toNat_natCast]
    exact hy
  intro k
  induction k with
  | zero =>
    intro fuel r s hr hf hs y hy
    obtain ⟨f, rfl⟩ : ∃ f, fuel = f + 1 := ⟨fuel - 1, by omega⟩
    have h0 : r = 0 := by simpa using hr
    subst h0
    exact exit f s (by omega) y hy
  | succ k ih =>
    intro fuel r s hr hf hs y hy
    obtain ⟨f, rfl⟩ : ∃ f, fuel = f + 1 := ⟨fuel - 1, by omega⟩
    by_cases h0 : r = 0
    · subst h0
      exact exit f s (by omega) y hy
    · have hc : cnt (k + 1) r = 1 + cnt k (r / 128) := by rw [cnt, if_neg h0]
      have hd : r / 128 < 128 ^ k := by
        rw [Nat.pow_succ] at hr
        exact Nat.div_lt_of_lt_mul (by omega)
      have a4 : iop .add .i64 (s : Int) 1 = ((s + 1 : Nat) : Int) := by rw [add_i (by omega) (by omega)]; omega
      rw [g84L1_eq, if_pos (by simp only [cop_lss_t, cop_lss_f, cop_leq_t, cop_leq_f, cop_gtr_t, cop_gtr_f, cop_geq_t, cop_geq_f, cop_eql_t, cop_eql_f, cop_neq_t, cop_neq_f, Bool.not_eq_true, Bool.not_eq_false, Bool.not_eq_true', Bool.not_eq_false', Bool.and_eq_true, Bool.or_eq_true, decide_eq_true_eq, decide_eq_false_iff_not, Bool.false_eq_true, Bool.true_eq_false, Option.bind_some, Option.some.injEq, false_iff, true_iff, iff_false, iff_true]; omega), reqK_pos (by decide), a4, shr7]
      refine ih f (r / 128) (s + 1) hd (by omega) (by omega) y ?_
      rw [hc] at hy
      rw [show s + 1 + cnt k (r / 128) = s + (1 + cnt k (r / 128)) by omega]
      exact hy

theorem l84b (l : List Int) {N C : Int} {size : Nat} (hl : l.length + size ≤ 2000000) (hN : N = ((l.length + size : Nat) : Int)) : ∀ (m fuel i v : Nat) (done : List Int), size = i + m → m < fuel → done.length = i →
    g84L0 fuel (byteCells l) (v : Int) (size : Int) (i : Int) N C (byteCells (l ++ done ++ List.replicate m 0)) = some (byteCells (l ++ done ++ uvm m v)) := by
  intro m
  induction m with
  | zero =>
    intro fuel i v done h hf hd
    obtain ⟨f, rfl⟩ : ∃ f, fuel = f + 1 := ⟨fuel - 1, by omega⟩
    rw [g84L0_eq, if_neg (by simp only [cop_lss_t, cop_lss_f, cop_leq_t, cop_leq_f, cop_gtr_t, cop_gtr_f, cop_geq_t, cop_geq_f, cop_eql_t, cop_eql_f, cop_neq_t, cop_neq_f, Bool.not_eq_true, Bool.not_eq_false, Bool.not_eq_true', Bool.not_eq_false', Bool.and_eq_true, Bool.or_eq_true, decide_eq_true_eq, decide_eq_false_iff_not, Bool.false_eq_true, Bool.true_eq_false, Option.bind_some, Option.some.injEq, false_iff, true_iff, iff_false, iff_true]; omega)]
    simp [uvm]
  | succ m ih =>
    intro fuel i v done h hf hd
    obtain ⟨f, rfl⟩ : ∃ f, fuel = f + 1 := ⟨fuel - 1, by omega⟩
    have a1 : iop .sub .i64 (size : Int) 1 = ((size - 1 : Nat) : Int) := by rw [sub_i (by omega) (by omega)]; omega
    have a2 : iop .add .i64 (l.length : Int) (i : Int) = ((l.length + i : Nat) : Int) := by rw [add_i (by omega) (by omega)]; omega
    have a3 : iop .add .i64 (i : Int) 1 = ((i + 1 : Nat) : Int) := by rw [add_i (by omega) (by omega)]; omega
    have hat : (l ++ done).length = l.length + i := by simp [hd]
    have hset : ∀ z : Int, setElem (byteCells (l ++ done ++ List.replicate (m + 1) 0)) (l.length + i) 0 [AV.val (.int .u8 z)] = byteCells (l ++ (done ++ [z]) ++ List.replicate m 0) := by
      intro z
      have := set_byte (l ++ done) (List.replicate m 0) 0 z
      rw [hat] at this
      rw [List.replicate_succ, this]
      simp [List.append_assoc]
    rw [g84L0_eq, if_pos (by simp only [cop_lss_t, cop_lss_f, cop_leq_t, cop_leq_f, cop_gtr_t, cop_gtr_f, cop_geq_t, cop_geq_f, cop_eql_t, cop_eql_f, cop_neq_t, cop_neq_f, Bool.not_eq_true, Bool.not_eq_false, Bool.not_eq_true', Bool.not_eq_false', Bool.and_eq_true, Bool.or_eq_true, decide_eq_true_eq, decide_eq_false_iff_not, Bool.false_eq_true, Bool.true_eq_false, Option.bind_some, Option.some.injEq, false_iff, true_iff, iff_false, iff_true]; omega), bytes_len, a1, a2, a3, shr7, Int.toNat_natCast, and127, or128 (Nat.mod_lt _ (by decide)), hset, hset]
    cases m with
    | zero =>
      rw [if_neg (by simp only [cop_lss_t, cop_lss_f, cop_leq_t, cop_leq_f, cop_gtr_t, cop_gtr_f, cop_geq_t, cop_geq_f, cop_eql_t, cop_eql_f, cop_neq_t, cop_neq_f, Bool.not_eq_true, Bool.not_eq_false, Bool.not_eq_true', Bool.not_eq_false', Bool.and_eq_true, Bool.or_eq_true, decide_eq_true_eq, decide_eq_false_iff_not, Bool.false_eq_true, Bool.true_eq_false, Option.bind_some, Option.some.injEq, false_iff, true_iff, iff_false, iff_true]; omega), reqK_pos (by omega), reqK_pos (by omega), reqK_pos (by omega), reqK_pos (by omega), reqK_pos (by decide)]
      have := ih f (i + 1) (v / 128) (done ++ [((v % 128 : Nat) : Int)]) (by omega) (by omega) (by simp [hd])
      rw [this]
      simp [uvm]
    | succ m =>
      rw [if_pos (by simp only [cop_lss_t, cop_lss_f, cop_leq_t, cop_leq_f, cop_gtr_t, cop_gtr_f, cop_geq_t, cop_geq_f, cop_eql_t, cop_eql_f, cop_neq_t, cop_neq_f, Bool.not_eq_true, Bool.not_eq_false, Bool.not_eq_true', Bool.not_eq_false', Bool.and_eq_true, Bool.or_eq_true, decide_eq_true_eq, decide_eq_false_iff_not, Bool.false_eq_true, Bool.true_eq_false, Option.bind_some, Option.some.injEq, false_iff, true_iff, iff_false, iff_true]; omega), reqK_pos (by omega), reqK_pos (by omega), reqK_pos (by omega), reqK_pos (by omega), reqK_pos (by decide)]
      have := ih f (i + 1) (v / 128) (done ++ [((v % 128 + 128 : Nat) : Int)]) (by omega) (by omega) (by simp [hd])
      rw [this]
      simp [uvm, List.append_assoc]

theorem splL_rep (l : List Int) (n : Nat) : splL (List.replicate (l.length + n) [AV.val (.int .u8 0)]) (byteCells l) = byteCells (l ++ List.replicate n 0) := by
  unfold splL
  rw [List.length_replicate, List.take_of_length_le (by rw [bytes_len]; omega), bytes_len, List.drop_replicate, bytes_app]
  have : l.length + n - l.length = n := by omega
  rw [this]
  congr 1
  simp [byteCells, u8c]

theorem s84 (l : List Int) (hl : l.length ≤ 1000000) (v : Nat) (hv : v < 2 ^ 64) : g84 (byteCells l) v = some (byteCells (l ++ uv v)) := by
  rw [g84_eq, reqK_pos (by decide), shr7]
  have h64 : (2 : Nat) ^ 64 = 18446744073709551616 := by decide
  have h128 : (128 : Nat) ^ 10 = 1180591620717411303424 := by decide
  refine l84a (by rw [bytes_len]; exact hl) 10 FUEL (v / 128) 1 (by omega) (fuel_lt (by decide)) (by decide) _ ?_
  rw [bytes_len, splL_rep]
  have hc := cnt_le 10 (v / 128)
  have := l84b l (N := ((l.length + (1 + cnt 10 (v / 128)) : Nat) : Int)) (C := ((l.length + (1 + cnt 10 (v / 128)) : Nat) : Int)) (size := 1 + cnt 10 (v / 128)) (by omega) rfl (1 + cnt 10 (v / 128)) FUEL 0 v [] (by omega) (fuel_lt (by omega)) rfl
  rw [List.append_nil] at this
  exact this

theorem uv_len (v : Nat) : (uv v).length = uvN v := uvm_len _ _
theorem uvN_le (v : Nat) : uvN v ≤ 11 := by have := cnt_le 10 (v / 128); unfold uvN; omega
theorem uv_bytes (v : Nat) : Bytes (uv v) := uvm_bytes _ _

/-- node.AppendId's bytes -/
def idB (i : Id) : List Int := uv i.core.toNat ++ uv i.op.toNat ++ uv i.part.toNat

theorem idB_le (i : Id) : (idB i).length ≤ 33 := by
  have h1 := uvN_le i.core.toNat
  have h2 := uvN_le i.op.toNat
  have h3 := uvN_le i.part.toNat
  simp only [idB, List.length_append, uv_len]
  omega

theorem s84' (l : List Int) (hl : l.length ≤ 1000000) (z : Int) (h0 : 0 ≤ z) (h1 : z < 2 ^ 63) : g84 (byteCells l) (IntKind.wrap .u64 z) = some (byteCells (l ++ uv z.toNat)) := by
  have h63 : (2 : Int) ^ 63 = 9223372036854775808 := by decide
  have h64 : (2 : Int) ^ 64 = 18446744073709551616 := by decide
  have h64' : (2 : Nat) ^ 64 = 18446744073709551616 := by decide
  have e : IntKind.wrap .u64 z = ((z.toNat : Nat) : Int) := by rw [wrapu_of h0 (by omega)]; omega
  rw [e]
  exact s84 l hl z.toNat (by omega)

theorem idOk_of {i : Id} (h : idOk i = true) : 0 ≤ i.core ∧ i.core < 32 ∧ 1 ≤ i.op ∧ i.op ≤ 1073741824 ∧ 0 ≤ i.part ∧ i.part < 8 := by simpa [idOk] using h

theorem s85 (l : List Int) (hl : l.length ≤ 900000) (i : Id) (hi : idOk i = true) : g85 (byteCells l) i.core i.op i.part = some (byteCells (l ++ idB i)) := by
  obtain ⟨h1, h2, h3, h4, h5, h6⟩ := idOk_of hi
  obtain ⟨f, hf⟩ := fuel6
  have h63 : (2 : Int) ^ 63 = 9223372036854775808 := by decide
  have u1 := uvN_le i.core.toNat
  have u2 := uvN_le i.op.toNat
  have e : (((([] : List (List AV)) ++ [[AV.val (.int .i64 i.core)]]) ++ [[AV.val (.int .i64 i.op)]]) ++ [[AV.val (.int .i64 i.part)]]) = [i64c i.core, i64c i.op, i64c i.part] := rfl
  have e1 : iop .add .i64 0 1 = 1 := by decide
  have e2 : iop .add .i64 1 1 = 2 := by decide
  have e3 : iop .add .i64 2 1 = 3 := by decide
  have hlen : (([i64c i.core, i64c i.op, i64c i.part] : List (List AV)).length : Int) = 3 := rfl
  rw [g85_eq, e, hf, hlen]
  rw [g85L0_eq, if_pos (by decide), elemK_at (sh := [.int .i64]) (cs := i64c i.core) (r := i.core) _ (by decide) rfl rfl, s84' l (by omega) i.core h1 (by omega), Option.bind_some, e1,
    g85L0_eq, if_pos (by decide), elemK_at (sh := [.int .i64]) (cs := i64c i.op) (r := i.op) _ (by decide) rfl rfl, s84' _ (by rw [List.length_append, uv_len]; omega) i.op (by omega) (by omega), Option.bind_some, e2,
    g85L0_eq, if_pos (by decide), elemK_at (sh := [.int .i64]) (cs := i64c i.part) (r := i.part) _ (by decide) rfl rfl, s84' _ (by rw [List.length_append, List.length_append, uv_len, uv_len]; omega) i.part (by omega) (by omega), Option.bind_some, e3,
    g85L0_eq, if_neg (by decide)]
  simp [idB, List.append_assoc]

/-- node.Encode's bytes -/
def nodeCode (n : Node) : List Int := idB n.id ++ uv n.path.length ++ (n.path.map idB).flatten ++ capCode n.cap
def nodeB (n : Node) : List Int := if nodeOk n = true then nodeCode n else []
def nodeE (n : Node) : Int := if nodeOk n = true then 0 else 1

theorem node_of {n : Node} (h : nodeOk n = true) : idOk n.id = true ∧ capOk n.cap = true ∧ n.path.length ≤ 8 ∧ ∀ i, i < n.path.length → pathAt n i = true := by
  simp only [nodeOk, Bool.and_eq_true, decide_eq_true_eq, List.all_eq_true, List.mem_range] at h
  exact ⟨h.1.1.1, h.1.1.2, h.1.2, h.2⟩

theorem path_ok {n : Node} (h : nodeOk n = true) (x : Id) (hx : x ∈ n.path) : idOk x = true := by
  obtain ⟨i, hi⟩ := List.mem_iff_getElem?.1 hx
  have := (node_of h).2.2.2 i (List.getElem?_eq_some_iff.1 hi).1
  unfold pathAt at this
  rw [hi] at this
  simp only [Bool.and_eq_true] at this
  exact this.1.1

theorem l63 (n : Node) (hn : nodeOk n = true) : ∀ (j i fuel : Nat) (acc : List Int), n.path.length = i + j → j < fuel → acc.length ≤ 1000 + 33 * i →
    g63L0 fuel n.id.core n.id.op n.id.part (idCells n.path) n.cap.kind n.cap.base n.cap.bits n.cap.rights n.cap.width n.cap.level n.cap.device (byteCells acc) (idCells n.path) (n.path.length : Int) i =
      some (byteCells (acc ++ ((n.path.drop i).map idB).flatten ++ capCode n.cap), 0) := by
  obtain ⟨h1, h2, h3, h4⟩ := node_of hn
  intro j
  induction j with
  | zero =>
    intro i fuel acc h hf ha
    obtain ⟨f, rfl⟩ : ∃ f, fuel = f + 1 := ⟨fuel - 1, by omega⟩
    have hb : encB ⟨n.cap.kind, n.cap.base, n.cap.bits, n.cap.rights, n.cap.width, n.cap.level, n.cap.device⟩ = capCode n.cap := by
      show encB n.cap = _
      unfold encB
      rw [if_pos h2]
    rw [g63L0_eq, if_neg (by simp only [cop_lss_t, cop_lss_f, cop_leq_t, cop_leq_f, cop_gtr_t, cop_gtr_f, cop_geq_t, cop_geq_f, cop_eql_t, cop_eql_f, cop_neq_t, cop_neq_f, Bool.not_eq_true, Bool.not_eq_false, Bool.not_eq_true', Bool.not_eq_false', Bool.and_eq_true, Bool.or_eq_true, decide_eq_true_eq, decide_eq_false_iff_not, Bool.false_eq_true, Bool.true_eq_false, Option.bind_some, Option.some.injEq, false_iff, true_iff, iff_false, iff_true]; omega), s38, Option.bind_some, hb, reqK_pos (room1 (by rw [bytes_len]; omega) (by rw [bytes_len]; simp [capCode])), List.drop_of_length_le (by omega)]
    simp [bytes_app]
  | succ j ih =>
    intro i fuel acc h hf ha
    obtain ⟨f, rfl⟩ : ∃ f, fuel = f + 1 := ⟨fuel - 1, by omega⟩
    have hi : i < n.path.length := by omega
    have hat : n.path[(i : Int).toNat]? = some n.path[i] := by simp
    have a4 : iop .add .i64 i 1 = ((i + 1 : Nat) : Int) := by rw [add_i (by omega) (by omega)]; omega
    have hx := path_ok hn n.path[i] (List.getElem_mem hi)
    have hle := idB_le n.path[i]
    rw [g63L0_eq, if_pos (by simp only [cop_lss_t, cop_lss_f, cop_leq_t, cop_leq_f, cop_gtr_t, cop_gtr_f, cop_geq_t, cop_geq_f, cop_eql_t, cop_eql_f, cop_neq_t, cop_neq_f, Bool.not_eq_true, Bool.not_eq_false, Bool.not_eq_true', Bool.not_eq_false', Bool.and_eq_true, Bool.or_eq_true, decide_eq_true_eq, decide_eq_false_iff_not, Bool.false_eq_true, Bool.true_eq_false, Option.bind_some, Option.some.injEq, false_iff, true_iff, iff_false, iff_true]; omega), elem_id _ (by omega) hat, s85 acc (by omega) _ hx, Option.bind_some, a4, ih (i + 1) f _ (by omega) (by omega) (by rw [List.length_append]; omega), List.drop_eq_getElem_cons hi]
    simp only [List.map_cons, List.flatten_cons, List.append_assoc]

theorem s63 (n : Node) (hl : n.path.length < 2 ^ 62) : g63 n.id.core n.id.op n.id.part (idCells n.path) n.cap.kind n.cap.base n.cap.bits n.cap.rights n.cap.width n.cap.level n.cap.device = some (byteCells (nodeB n), nodeE n) := by
  rw [g63_eq, s49 n hl, Option.bind_some]
  unfold nodeB nodeE
  cases hn : nodeOk n with
  | false => rfl
  | true =>
    obtain ⟨h1, h2, h3, h4⟩ := node_of hn
    have hle := idB_le n.id
    have hu := uvN_le n.path.length
    have e0 : ([] : List (List AV)) = byteCells [] := rfl
    rw [if_neg (by simp), e0, s85 [] (by simp) n.id h1, Option.bind_some, List.nil_append, ids_len, s84' _ (by omega) _ (by omega) (by omega), Option.bind_some, Int.toNat_natCast, if_pos rfl, if_pos rfl]
    have := l63 n hn n.path.length 0 FUEL (idB n.id ++ uv n.path.length) (by omega) (fuel_lt (by omega)) (by rw [List.length_append, uv_len]; omega)
    refine this.trans ?_
    rfl

/-- The sanity check. -/
theorem s42 : g42 = some true := by
  have hc : capOk ⟨2, 4096, 12, 3, 0, 0, false⟩ = true := by decide
  have hp : nodeOk ⟨⟨0, 1, 0⟩, [], ⟨2, 4096, 12, 3, 0, 0, false⟩⟩ = true := by decide
  have he : childErr ⟨⟨0, 1, 0⟩, [], ⟨2, 4096, 12, 3, 0, 0, false⟩⟩ ⟨0, 2, 0⟩ ⟨2, 4096, 12, 3, 0, 0, false⟩ = 0 := by decide
  have hk : nodeOk ⟨⟨0, 2, 0⟩, [⟨0, 1, 0⟩], ⟨2, 4096, 12, 3, 0, 0, false⟩⟩ = true := by decide
  have hlen : (nodeB ⟨⟨0, 2, 0⟩, [⟨0, 1, 0⟩], ⟨2, 4096, 12, 3, 0, 0, false⟩⟩).length = 17 := by decide
  have q43 := s43 ⟨⟨0, 1, 0⟩, [], ⟨2, 4096, 12, 3, 0, 0, false⟩⟩ (by decide) ⟨0, 2, 0⟩ ⟨2, 4096, 12, 3, 0, 0, false⟩
  rw [he, if_pos rfl] at q43
  have q63 := s63 ⟨⟨0, 2, 0⟩, [⟨0, 1, 0⟩], ⟨2, 4096, 12, 3, 0, 0, false⟩⟩ (by decide)
  have q49 := s49 ⟨⟨0, 2, 0⟩, [⟨0, 1, 0⟩], ⟨2, 4096, 12, 3, 0, 0, false⟩⟩ (by decide)
  have q50 := s50 ⟨⟨0, 2, 0⟩, [⟨0, 1, 0⟩], ⟨2, 4096, 12, 3, 0, 0, false⟩⟩ (by decide) 0 1 0
  have hne : nodeE ⟨⟨0, 2, 0⟩, [⟨0, 1, 0⟩], ⟨2, 4096, 12, 3, 0, 0, false⟩⟩ = 0 := by decide
  rw [hne] at q63
  rw [hk] at q49
  simp only [List.nil_append] at q43
  have e0 : idCells [] = [] := rfl
  simp only [e0] at q43
  rw [g42_eq, g48_eq, Option.bind_some, Option.bind_some]
  dsimp only
  rw [q43, Option.bind_some]
  dsimp only
  rw [q63, Option.bind_some]
  dsimp only
  rw [if_pos (by decide), if_pos (by decide), if_pos (by rw [bytes_len, hlen]; decide), q49, Option.bind_some, if_pos rfl, q50, Option.bind_some]
  rfl

end Go.Proofs.Ytjfhdhplmibnfaa
