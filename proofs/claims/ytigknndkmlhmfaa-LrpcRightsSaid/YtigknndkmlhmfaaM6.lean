/- AmRun, AmSem, AmIns, AmGrow, AmSort, LSh: texts of the proof, put together. -/
import Derived.Test.YtigknndkmlhmfaaM5
import Derived.WalkKit
import Derived.Lib.Walk
import Derived.Lib.SliceRun
import Derived.Lib.AppendZerosOnto
import Derived.Lib.Overlaps
import Derived.Laws.Externs
import Derived.Laws.IdiomCopy
import Derived.Shelf.RegionOpenPlain
import Derived.Shelf.Spec.SlicesGrow
import Derived.Shelf.SortM.Plain
import Derived.Shelf.SortM.SortNone
import Derived.Test.YtigknndkmlhmfaaProg

section
namespace Go.AM
@[reducible] def Sh.T:Sh→Type
 | .int _ => Int
 | .bool => Bool
 | .str => ByteArray
 | .slice _ => List (List AV)
 | .own _ _ => List (List AV)
@[reducible] def ShsT:List Sh→Type
 | [] => Unit
 | [s] => s.T
 | s :: t :: r => s.T × ShsT (t :: r)
def Sh.toV:(s:Sh)→s.T→V
 | .int _, z => .i z
 | .bool, z => .b z
 | .str, z => .s z
 | .slice _, z => .l z
 | .own _ _, z => .l z
def Sh.ofV:(s:Sh)→V→Option s.T
 | .int _, .i z => some z
 | .bool, .b z => some z
 | .str, .s z => some z
 | .slice _, .l z => some z
 | .own _ _, .l z => some z
 | _, _ => none
def ZbW:(l:List Sh)→ShsT l→List V
 | [], _ => []
 | [s], x => [s.toV x]
 | s :: t :: r, x => s.toV x.1 :: ZbW (t :: r) x.2
def Zld:(l:List Sh)→List V→Option (ShsT l)
 | [], [] => some ()
 | [], _ :: _ => none
 | [s], [v] => s.ofV v
 | [_], [] => none
 | [_], _ :: _ :: _ => none
 | _ :: _ :: _, [] => none
 | s :: t :: r, v :: vs => match s.ofV v, Zld (t :: r) vs with | some a, some b => some (a, b) | _, _ => none
theorem Zi6 {s:Sh} {v:V} {x:s.T} (h:s.ofV v=some x):s.toV x=v:=by
 cases s<;>cases v<;>simp [Sh.ofV] at h<;>subst h<;>rfl
theorem ZdM:∀ (l:List Sh) (vs:List V) (x:ShsT l),Zld l vs=some x→ZbW l x=vs
 | [], [], _, _ => rfl
 | [], _ :: _, _, h => by simp [Zld] at h
 | [s], [v], x, h => by simp only [ZbW, Zi6 (show s.ofV v = some x from h)]
 | [_], [], _, h => by simp [Zld] at h
 | [_], _ :: _ :: _, _, h => by simp [Zld] at h
 | _ :: _ :: _, [], _, h => by simp [Zld] at h
 | s :: t :: r, v :: vs, x, h => by
  simp only [Zld] at h
  split at h
  ·rename_i a b ha hb
   simp only [Option.some.injEq] at h
   subst h
   simp only [ZbW,Zi6 ha,ZdM (t::r) vs b hb]
  ·cases h
def Sh.ofE:(s:Sh)→AV→Option s.T
 | .int k, .val (.int k' z) => if k' = k then some z else none
 | .bool, .val (.bool b) => some b
 | .str, .val (.string b) => some b
 | .slice s, .slice false s' xs => if s' = s then some xs else none
 | _, _ => none
def ZiA:(l:List Sh)→List AV→Option (ShsT l)
 | [], [] => some ()
 | [], _ :: _ => none
 | [s], [c] => s.ofE c
 | [_], [] => none
 | [_], _ :: _ :: _ => none
 | _ :: _ :: _, [] => none
 | s :: t :: r, c :: cs => match s.ofE c, ZiA (t :: r) cs with | some a, some b => some (a, b) | _, _ => none
theorem ZiR {s:Sh} {c:AV} {x:s.T} {n:Nat} {ρ:Nat→V} (h:s.ofE c=some x) (hρ:ρ n=s.toV x):(Ju s n).den ρ=c:=by
 unfold Sh.ofE at h
 split at h
 ·split at h
  ·simp only [Option.some.injEq] at h
   subst h
   rename_i hk
   subst hk
   simp only [Ju,SC.den,IE.den,hρ,Sh.toV,V.int]
  ·cases h
 ·simp only [Option.some.injEq] at h
  subst h
  simp only [Ju,SC.den,BE.den,hρ,Sh.toV,V.bool]
 ·simp only [Option.some.injEq] at h
  subst h
  simp only [Ju,SC.den,SE.den,hρ,Sh.toV,V.str]
 ·split at h
  ·simp only [Option.some.injEq] at h
   subst h
   rename_i hk
   subst hk
   simp only [Ju,SC.den,LE.den,hρ,Sh.toV,V.list]
  ·cases h
 ·cases h
theorem ZgA:∀ (l:List Sh) (cs:List AV) (x:ShsT l) (n:Nat) (ρ:Nat→V),ZiA l cs=some x→Zgr ρ n (ZbW l x)→(ZC l n).map (SC.den ρ)=cs
 | [], [], _, _, _, _, _ => rfl
 | [], _ :: _, _, _, _, h, _ => by simp [ZiA] at h
 | [s], [c], x, n, ρ, h, hf => by
  have h0:=hf 0 _ (show (ZbW [s] x)[0]? = some (s.toV x) from rfl)
  rw [Nat.add_zero] at h0
  simp only [ZC,List.map_cons,List.map_nil,ZiR (show s.ofE c=some x from h) h0]
 | [_], [], _, _, _, h, _ => by simp [ZiA] at h
 | [_], _ :: _ :: _, _, _, _, h, _ => by simp [ZiA] at h
 | _ :: _ :: _, [], _, _, _, h, _ => by simp [ZiA] at h
 | s :: t :: r, c :: cs, x, n, ρ, h, hf => by
  simp only [ZiA] at h
  split at h
  ·rename_i a b ha hb
   simp only [Option.some.injEq] at h
   subst h
   obtain ⟨h0,h1⟩:=Zgr.tail (show Zgr ρ n (s.toV a::ZbW (t::r) b) from hf)
   have h2:=ZgA (t::r) cs b (n+1) ρ hb h1
   rw [ZC,List.map_cons,ZiR ha h0,h2]
  ·cases h
def ZF {γ:Type} (p:Prop) [Decidable p] (x:Option γ):Option γ:=if p then x else none
theorem JN {γ:Type} {p:Prop} {_:Decidable p} (h:p) (x:Option γ):ZF p x=x:=if_pos h
theorem Js {γ:Type} {p:Prop} {_:Decidable p} {x:Option γ} {r:γ} (h:ZF p x=some r):p∧x=some r:=by
 unfold ZF at h
 split at h
 ·exact ⟨‹_›,h⟩
 ·cases h
def ZlW:Value→Value→Bool
 | .int k z, .int k' z' => decide (k = k') && decide (z = z')
 | .bool b, .bool b' => b == b'
 | .string s, .string s' => decide (s = s')
 | _, _ => false
theorem ZaW {a b:Value} (h:ZlW a b=true):a=b:=by
 unfold ZlW at h
 split at h
 ·simp only [Bool.and_eq_true,decide_eq_true_eq] at h
  rw [h.1,h.2]
 ·rw [beq_iff_eq] at h
  rw [h]
 ·rw [decide_eq_true_eq] at h
  rw [h]
 ·cases h
def Zmh {α:Type} (q:α→α→Bool):List α→List α→Bool
 | [], [] => true
 | a :: aZ, b :: bs => q a b && Zmh q aZ bs
 | _, _ => false
theorem Kd {α:Type} {q:α→α→Bool} (hq:∀ a b,q a b=true→a=b):∀ (aZ bs:List α),Zmh q aZ bs=true→aZ=bs
 | [], [], _ => rfl
 | [], _ :: _, h => by cases h
 | _ :: _, [], h => by cases h
 | a :: aZ, b :: bs, h => by
  simp only [Zmh,Bool.and_eq_true] at h
  rw [hq a b h.1,Kd hq aZ bs h.2]
def ZmE:Nat→AV→AV→Bool
 | _, .val a, .val b => ZlW a b
 | n + 1, .slice f s xs, .slice f' s' ys => f == f' && (decide (s = s') && Zmh (Zmh (ZmE n)) xs ys)
 | _, _, _ => false
theorem Zhk:∀ (n:Nat) (a b:AV),ZmE n a b=true→a=b:=by
 intro n
 induction n with
 | zero =>
  intro a b h
  unfold ZmE at h
  split at h
  ·rw [ZaW h]
  ·rename_i hn;cases hn
  ·cases h
 | succ n ih =>
  intro a b h
  unfold ZmE at h
  split at h
  ·rw [ZaW h]
  ·rename_i hn
   cases hn
   simp only [Bool.and_eq_true,beq_iff_eq,decide_eq_true_eq] at h
   rw [h.1,h.2.1,Kd (fun x y hxy=>Kd ih x y hxy) _ _ h.2.2]
  ·cases h
section
open Classical in
noncomputable instance decLL:DecidableEq (List (List AV)):=fun a b=>if h:Zmh (Zmh (ZmE 8)) a b=true then isTrue (Kd (fun x y hxy=>Kd (Zhk 8) x y hxy) _ _ h) else propDecidable _
end
@[reducible] noncomputable def Sh.dec:(s:Sh)→DecidableEq s.T
 | .int _ => inferInstanceAs (DecidableEq Int)
 | .bool => inferInstanceAs (DecidableEq Bool)
 | .str => inferInstanceAs (DecidableEq ByteArray)
 | .slice _ => decLL
 | .own _ _ => decLL
@[reducible] noncomputable def decS:(l:List Sh)→DecidableEq (ShsT l)
 | [] => inferInstanceAs (DecidableEq Unit)
 | [s] => s.dec
 | s :: t :: r => @instDecidableEqProd _ _ s.dec (decS (t :: r))
def Zg0 {γ:Type} [d:DecidableEq γ] (l:List (List AV)) (k:Bool→Option γ):Option γ:=
 match l with
 | [] => if k true = k false then k true else none
 | _ :: _ => k false
theorem ZhC {γ:Type} {d:DecidableEq γ} {l:List (List AV)} {k:Bool→Option γ} {r:γ} (h:Zg0 l k=some r) (b:Bool) (hb:b=true→l = []):k b=some r:=by
 unfold Zg0 at h
 split at h
 ·split at h
  ·rename_i he
   cases b
   ·rw [← he];exact h
   ·exact h
  ·cases h
 ·cases b
  ·exact h
  ·cases hb rfl
def Jk {γ:Type} (l:List (List AV)) (i:Int) (sh:List Sh) (k:ShsT sh→Option γ):Option γ:=
 if 0≤i then match l[i.toNat]? with | some cs=>(match ZiA sh cs with | some r=>k r | none=>none) | none=>none else none
theorem Y1 {γ:Type} {l:List (List AV)} {i:Int} {sh:List Sh} {cs:List AV} {r:ShsT sh} (k:ShsT sh→Option γ) (h0:0≤i) (h1:l[i.toNat]? = some cs) (h2:ZiA sh cs=some r):Jk l i sh k=k r:=by
 simp only [Jk,h0,if_true,h1,h2]
theorem Zhw {γ:Type} {l:List (List AV)} {i:Int} {sh:List Sh} {k:ShsT sh→Option γ} {x:γ} (h:Jk l i sh k=some x):0≤i∧∃ cs r,l[i.toNat]? = some cs∧ZiA sh cs=some r∧k r=some x:=by
 unfold Jk at h
 split at h
 ·refine ⟨‹_›,?_⟩
  split at h
  ·split at h
   ·exact ⟨_,_,‹_›,‹_›,h⟩
   ·cases h
  ·cases h
 ·cases h
def ZbZ {γ:Type} (F:(List V→Option γ)→List V→Option γ):Nat→List V→Option γ
 | 0 => fun _ => none
 | k + 1 => F (ZbZ F k)
def VP:Nat:=1208925819614629174706176
inductive AP where
 | c (s : Sh)
 | agg (l : List Sh)
 | box (l : List Sh)
 | gbox (l : List Sh)
 | clo (g : FuncId) (ds : List Nat)
 | ref (j q : Nat)
 | dead
def RSh.sh:RSh→List Sh
 | .c s => [s]
 | .agg l => l
 | .box l => l
 | .aggo l => l
def JV:List AP→List Sh
 | [] => []
 | .box l :: r => l ++ JV r
 | .gbox l :: r => l ++ JV r
 | _ :: r => JV r
def ZbQ (rs:List RSh) (aps:List AP):List Sh:=rs.flatMap RSh.sh++JV aps
structure Fun where
 args:List AP
 res:List RSh
 g:List V→Option (ShsT (ZbQ res args))
def Yx (r:RSh) (us:List V) (j:Nat):AV:=
 match r with
 | .c s => YM s (vAt us j)
 | .agg l => .agg (ZU l us j)
 | .box l => .box (ZU l us j)
 | .aggo l => .aggo (ZU l us j)
def J6:List RSh→List V→Nat→List AV
 | [], _, _ => []
 | r :: rs, us, j => Yx r us j :: J6 rs us (j + r.sh.length)
def YR (rs:List RSh) (us:List V) (j:Nat):AV:=
 match rs with
 | [r] => Yx r us j
 | rs => .tuple (J6 rs us j)
def Z0:List AP→List V→Nat→List AV
 | [], _, _ => []
 | .box l :: r, us, j => .box (ZU l us j) :: Z0 r us (j + l.length)
 | .gbox l :: r, us, j => .gbox (ZU l us j) :: Z0 r us (j + l.length)
 | _ :: r, us, j => .dead :: Z0 r us j
def AP.n:AP→Nat
 | .c _ => 1
 | .agg l => l.length
 | .box l => l.length
 | .gbox l => l.length
 | .clo _ _ => 0
 | .ref _ _ => 0
 | .dead => 0
def Zjj (a:AP) (us:List V) (j:Nat):AV:=
 match a with
 | .c s => YM s (vAt us j)
 | .agg l => .agg (ZU l us j)
 | .box l => .box (ZU l us j)
 | .gbox l => .gbox (ZU l us j)
 | .clo g ds => .clo g ds
 | .ref j q => .mref j q
 | .dead => .dead
def KE:List AP→List V→Nat→List AV
 | [], _, _ => []
 | a :: r, us, j => Zjj a us j :: KE r us (j + a.n)
def ZdI (rs:List RSh):Nat:=(rs.flatMap RSh.sh).length
def Fun.Ok (P:Program) (f:FuncId) (S:Fun):Prop:=
 ∀ vs r,S.g vs=some r→Jw P f (KE S.args vs 0) (YR S.res (ZbW _ r) 0) (Z0 S.args (ZbW _ r) (ZdI S.res))
def Ziy (P:Program):List (FuncId×Fun)→Prop
 | [] => True
 | p :: r => p.2.Ok P p.1 ∧ Ziy P r
def AP.sig:AP→Option (FuncId×List Nat)
 | .clo g ds => some (g, ds)
 | .ref j q => some (1000000, [j, q])
 | _ => none
def SV.sig:SV→Option (FuncId×List Nat)
 | .clo g ds => some (g, ds)
 | .mref j q => some (1000000, [j, q])
 | _ => none
def Zi1:List (FuncId×Fun)→FuncId→List (FuncId×List Nat)→Option Fun
 | [], _, _ => none
 | p :: r, f, sg => if p.1 = f ∧ p.2.args.filterMap AP.sig = sg then some p.2 else Zi1 r f sg
theorem Zgt {P:Program} : ∀ {Φ:List (FuncId×Fun)} {f:FuncId} {sg:List (FuncId×List Nat)} {S:Fun},Ziy P Φ→Zi1 Φ f sg=some S→S.Ok P f
 | [], _, _, _, _, h => by simp [Zi1] at h
 | p :: r, f, sg, S, ho, h => by
  simp only [Zi1] at h
  split at h
  ·rename_i hp
   simp only [Option.some.injEq] at h
   obtain ⟨hp,_⟩:=hp
   subst hp
   subst h
   exact ho.1
  ·exact Zgt ho.2 h
def Zmc (P:Program):Sh→AV→Option V
 | .int k, .val (.int k' z) => if k' = k then some (.i z) else none
 | .bool, .val (.bool b) => some (.b b)
 | .str, .val (.string s) => some (.s s)
 | .slice s, .slice _ s' xs => if s' = s then some (.l xs) else (match xs with | [] => some (.l []) | _ :: _ => none)
 | .slice s, .own x e xs => if P.cellsOf e = s then (match x, xs with | false, xs => some (.l xs) | true, [] => some (.l []) | true, _ :: _ => none) else none
 | .own x e, .own x' e' xs => if e' = e then (match x, x', xs with | false, false, xs => some (.l xs) | true, true, xs => some (.l xs) | _, _, [] => if e < 2097152 then some (.l []) else none | _, _, _ :: _ => none) else none
 | .own _ e, .slice true _ xs => (match xs with | [] => if e < 2097152 then some (.l []) else none | _ :: _ => none)
 | _, _ => none
def Zdk (P:Program):List Sh→List AV→Option (List V)
 | [], [] => some []
 | s :: ss, c :: cs => match Zmc P s c, Zdk P ss cs with | some v, some vs => some (v :: vs) | _, _ => none
 | _, _ => none
def Zmw (P:Program):AP→AV→Option (List V)
 | .c s, x => (Zmc P s x).map fun v => [v]
 | .agg l, .agg cs => if l.all Sh.imm = true then Zdk P l cs else none
 | .box l, .box cs => Zdk P l cs
 | .gbox l, .gbox cs => Zdk P l cs
 | .clo g ds, .clo g' ds' => if g' = g ∧ ds' = ds then some [] else none
 | .ref j q, .mref j' q' => if j' = j ∧ q' = q ∧ q ≠ 0 then some [] else none
 | .dead, .dead => some []
 | _, _ => none
def Zby (P:Program):List AP→List AV→Option (List V)
 | [], [] => some []
 | a :: aZ, x :: xs => match Zmw P a x, Zby P aZ xs with | some vs, some us => some (vs ++ us) | _, _ => none
 | _, _ => none
theorem Zib {P:Program} {s:Sh} {c:AV} {v:V} (h:Zmc P s c=some v):Yi P c (YM s v):=by
 unfold Zmc at h
 split at h
 ·split at h
  ·simp only [Option.some.injEq] at h;subst h;rename_i hk;subst hk;exact .same (.inl rfl)
  ·cases h
 ·simp only [Option.some.injEq] at h;subst h;exact .same (.inl rfl)
 ·simp only [Option.some.injEq] at h;subst h;exact .same (.inl rfl)
 ·split at h
  ·simp only [Option.some.injEq] at h;subst h;rename_i hk;subst hk;exact .imm
  ·split at h
   ·simp only [Option.some.injEq] at h;subst h;exact .immN
   ·cases h
 ·split at h
  ·rename_i hk
   subst hk
   split at h
   ·simp only [Option.some.injEq] at h;subst h;exact .own
   ·simp only [Option.some.injEq] at h;subst h;exact .ownZ
   ·cases h
  ·cases h
 ·split at h
  ·rename_i hk
   subst hk
   split at h
   ·simp only [Option.some.injEq] at h;subst h;exact .same (.inr ⟨_,_,_,rfl⟩)
   ·simp only [Option.some.injEq] at h;subst h;exact .same (.inr ⟨_,_,_,rfl⟩)
   ·split at h
    ·rename_i hlt
     simp only [Option.some.injEq] at h;subst h;exact .ownN hlt
    ·cases h
   ·cases h
  ·cases h
 ·split at h
  ·split at h
   ·rename_i hlt
    simp only [Option.some.injEq] at h;subst h;exact .give hlt
   ·cases h
  ·cases h
 ·cases h
theorem Zat {P:Program} : ∀ (l:List Sh) (cs:List AV) (vs:List V),Zdk P l cs=some vs→vs.length=l.length∧cs.length=l.length∧∀ pre post:List V,
  ∀ (i:Nat) (c c':AV),cs[i]? = some c→(ZU l (pre++vs++post) pre.length)[i]? = some c'→Yi P c c'
 | [], [], vs, h => by
  simp only [Zdk,Option.some.injEq] at h
  subst h
  exact ⟨rfl,rfl,fun _ _ i c c' h=>by simp at h⟩
 | [], _ :: _, _, h => by simp [Zdk] at h
 | _ :: _, [], _, h => by simp [Zdk] at h
 | s :: ss, c :: cs, us, h => by
  simp only [Zdk] at h
  split at h
  ·rename_i v vs hv hvs
   simp only [Option.some.injEq] at h
   subst h
   obtain ⟨h1,h2,h3⟩:=Zat (P:=P) ss cs vs hvs
   refine ⟨by simp [h1],by simp [h2],fun pre post i c1 c2 hc1 hc2=>?_⟩
   cases i with
   | zero =>
    simp only [ZU,List.getElem?_cons_zero,Option.some.injEq] at hc1 hc2
    subst hc1
    subst hc2
    rw [List.append_assoc,List.cons_append,K1]
    exact Zib hv
   | succ i =>
    have:=h3 (pre++[v]) post i c1 c2 (by simpa using hc1)
    simp only [List.append_assoc,List.cons_append,List.nil_append,List.length_append,List.length_cons,List.length_nil] at this
    simp only [ZU,List.getElem?_cons_succ,List.append_assoc,List.cons_append] at hc2
    exact this hc2
  ·cases h
theorem ZlI {P:Program} {a:AP} {x:AV} {vs:List V} (h:Zmw P a x=some vs):vs.length=a.n∧((∃ g ds,a = .clo g ds∧x = .clo g ds)∨(∃ j q,a = .ref j q∧x = .mref j q)∨∀ pre post:List V,Yt P x (Zjj a (pre++vs++post) pre.length)):=by
 unfold Zmw at h
 split at h
 ·cases hd:Zmc P _ x with
  | none => rw [hd] at h; cases h
  | some v =>
   rw [hd] at h
   simp only [Option.map_some,Option.some.injEq] at h
   subst h
   refine ⟨rfl,.inr<|.inr fun pre post=>?_⟩
   simp only [Zjj,List.append_assoc,List.cons_append,List.nil_append,K1]
   exact .comp (.cell (Zib hd))
 ·rename_i l cs
  split at h
  ·rename_i hi
   obtain ⟨h1,h2,h3⟩:=Zat (P:=P) _ _ _ h
   exact ⟨h1,.inr<|.inr fun pre post=>.comp (.agg (by rw [h2,Jc]) (Kx _ _ _ hi) (h3 pre post))⟩
  ·cases h
 ·obtain ⟨h1,h2,h3⟩:=Zat (P:=P) _ _ _ h
  exact ⟨h1,.inr<|.inr fun pre post=>.box (by rw [h2,Jc]) (h3 pre post)⟩
 ·obtain ⟨h1,h2,h3⟩:=Zat (P:=P) _ _ _ h
  exact ⟨h1,.inr<|.inr fun pre post=>.gbox (by rw [h2,Jc]) (h3 pre post)⟩
 ·split at h
  ·rename_i hh
   simp only [Option.some.injEq] at h
   subst h
   obtain ⟨rfl,rfl⟩:=hh
   exact ⟨rfl,.inl ⟨_,_,rfl,rfl⟩⟩
  ·cases h
 ·split at h
  ·rename_i hh
   simp only [Option.some.injEq] at h
   subst h
   obtain ⟨rfl,rfl,_⟩:=hh
   exact ⟨rfl,.inr (.inl ⟨_,_,rfl,rfl⟩)⟩
  ·cases h
 ·simp only [Option.some.injEq] at h
  subst h
  exact ⟨rfl,.inr<|.inr fun _ _=>.dead⟩
 ·cases h
theorem Zcd:∀ (l:List AP) (us:List V) (j:Nat),(KE l us j).length=l.length
 | [], _, _ => rfl
 | _ :: ss, us, j => by simp [KE, Zcd ss us]
theorem ZgG {P:Program} : ∀ (aZ:List AP) (xs:List AV) (vs:List V),Zby P aZ xs=some vs→xs.length=aZ.length∧∀ pre post:List V,
  ∀ (i:Nat) (c c':AV),xs[i]? = some c→(KE aZ (pre++vs++post) pre.length)[i]? = some c'→(∃ g ds,aZ[i]? = some (.clo g ds)∧c = .clo g ds∧c' = .clo g ds)∨(∃ j q,aZ[i]? = some (.ref j q)∧c = .mref j q∧c' = .mref j q)∨Yt P c c'
 | [], [], _, _ => ⟨rfl, fun _ _ i c c' h => by simp at h⟩
 | [], _ :: _, _, h => by simp [Zby] at h
 | _ :: _, [], _, h => by simp [Zby] at h
 | a :: aZ, x :: xs, ws, h => by
  simp only [Zby] at h
  split at h
  ·rename_i vs us hv hus
   simp only [Option.some.injEq] at h
   subst h
   obtain ⟨h1,h2⟩:=ZlI (P:=P) hv
   obtain ⟨h3,h4⟩:=ZgG (P:=P) aZ xs us hus
   refine ⟨by simp [h3],fun pre post i c1 c2 hc1 hc2=>?_⟩
   cases i with
   | zero =>
    simp only [KE,List.getElem?_cons_zero,Option.some.injEq] at hc1 hc2
    subst hc1
    subst hc2
    rcases h2 with ⟨g,ds,rfl,rfl⟩ | ⟨j,q,rfl,rfl⟩ | h2
    ·exact .inl ⟨g,ds,rfl,rfl,rfl⟩
    ·exact .inr (.inl ⟨j,q,rfl,rfl,rfl⟩)
    ·have:=h2 pre (us++post)
     exact .inr (.inr (by simpa [List.append_assoc] using this))
   | succ i =>
    have:=h4 (pre++vs) post i c1 c2 (by simpa using hc1)
    rw [List.length_append,h1] at this
    simp only [KE,List.getElem?_cons_succ] at hc2
    refine this ?_
    simpa [List.append_assoc] using hc2
  ·cases h
def Wg (aZ:List AP):Bool:=aZ.all fun a=>match a with | .clo _ ds=>ds.all (fun d=>match aZ[d]? with | some (.gbox _)=>true | _=>false) | .ref j q=>(match aZ[j]? with | some (.gbox l)=>(HP.gbox l).isPl q | _=>false) | _=>true
theorem Zav:∀ (aZ:List AP) (us:List V) (j i:Nat) (a:AP),aZ[i]? = some a→∃ k,(KE aZ us j)[i]? = some (Zjj a us k)
 | [], _, _, _, _, h => by simp at h
 | b :: aZ, us, j, 0, a, h => by
  simp only [List.getElem?_cons_zero,Option.some.injEq] at h
  subst h
  exact ⟨j,rfl⟩
 | b :: aZ, us, j, i + 1, a, h => by
  obtain ⟨k,hk⟩:=Zav aZ us (j+b.n) i a (by simpa using h)
  exact ⟨k,by simpa [KE] using hk⟩
theorem ZfJ {P:Program} {aZ:List AP} {xs:List AV} {vs:List V} (hc:Wg aZ=true) (h:Zby P aZ xs=some vs):KG P xs (KE aZ vs 0):=by
 obtain ⟨h1,h2⟩:=ZgG (P:=P) aZ xs vs h
 refine ⟨by rw [h1,Zcd],fun i c c' hx hc'=>?_⟩
 rcases h2 [] [] i c c' hx (by simpa using hc') with ⟨g,ds,k1,rfl,rfl⟩ | ⟨j,q,k1,rfl,rfl⟩ | hw
 case inr.inl=>
  refine .inr (.inr ⟨j,q,rfl,rfl,?_⟩)
  unfold Wg at hc
  rw [List.all_eq_true] at hc
  have h3:=hc _ (List.mem_of_getElem? k1)
  simp only at h3
  split at h3
  ·rename_i l hl
   obtain ⟨k,hk⟩:=Zav aZ vs 0 j _ hl
   simp only [ZG,hk]
   exact Zgf h3 vs k
  ·cases h3
 ·refine .inr (.inl ⟨g,ds,rfl,rfl,fun d hd=>?_⟩)
  unfold Wg at hc
  rw [List.all_eq_true] at hc
  have h3:=hc _ (List.mem_of_getElem? k1)
  simp only at h3
  rw [List.all_eq_true] at h3
  have h4:=h3 d hd
  split at h4
  ·rename_i l hl
   obtain ⟨k,hk⟩:=Zav aZ vs 0 d _ hl
   simp only [ZG,hk]
   rfl
  ·cases h4
 ·exact .inl hw
def ZgQ (P:Program) (a:AP) (x:AV):AV:=
 match a,x with
 | .c (.slice _), .own true e xs => .own (Zg P e) e xs
 | .c (.own false _), .own true e xs => .own (Zg P e) e xs
 | _, x => x
def Zez (P:Program):List AP→List AV→List AV
 | a :: aZ, x :: xs => ZgQ P a x :: Zez P aZ xs
 | _, xs => xs
theorem Zbv (P:Program) (a:AP) (x:AV):ZgQ P a x=x∨∃ e xs,x = .own true e xs∧ZgQ P a x = .own false e xs∧Zg P e=false:=by
 unfold ZgQ
 split
 ·rename_i e xs
  cases h:Zg P e with
  | true => exact .inl rfl
  | false => exact .inr ⟨e, xs, rfl, rfl, h⟩
 ·rename_i e xs
  cases h:Zg P e with
  | true => exact .inl rfl
  | false => exact .inr ⟨e, xs, rfl, rfl, h⟩
 ·exact .inl rfl
theorem ZfH (pre post:List AV) (x:AV) (i:Nat):ZG (pre++x::post) i=if i=pre.length then x else ZG (pre++.dead::post) i:=by
 unfold ZG
 by_cases hi:i=pre.length
 ·subst hi
  rw [if_pos rfl,List.getElem?_append_right (Nat.le_refl _),Nat.sub_self]
  rfl
 ·rw [if_neg hi]
  by_cases hlt:i < pre.length
  ·rw [List.getElem?_append_left hlt,List.getElem?_append_left hlt]
  ·rw [List.getElem?_append_right (by omega),List.getElem?_append_right (by omega)]
   obtain ⟨j,hj⟩:∃ j,i-pre.length=j+1:=⟨i-pre.length-1,by omega⟩
   rw [hj,List.getElem?_cons_succ,List.getElem?_cons_succ]
theorem Zi8 {P:Program} {w:World} {lim:Nat→Nat} {e:TypeId} {xs:List (List AV)} {v:Value} (hnm:Zg P e=false) (h:ZP P w lim true e xs v none):ZP P w lim false e xs v none:=by
 rcases h.noMap hnm with ⟨us,h1,h2,h3,h4,h5,h6⟩ | h
 ·exact .inl ⟨us,h1,h2,fun b hb=>(by cases hb),h4,h5,h6⟩
 ·exact .inr (.inl h)
theorem Jw.freeze1 {P:Program} {f:FuncId} {pre post:List AV} {e:TypeId} {xs:List (List AV)} {res:AV} {outs:List AV} (h:Jw P f (pre++.own false e xs::post) res outs)
  (hn:∀ x∈pre++post,∀ d,¬ Z8 x d 0) (hnm:Zg P e=false):Jw P f (pre++.own true e xs::post) res outs:=by
 have hll:(pre++AV.own true e xs::post).length=(pre++AV.own false e xs::post).length:=by simp
 refine ⟨h.1,by rw [hll];exact h.2.1,fun w lim X cargs hcl hrel hdist hsize hfar=>?_⟩
 have hat:∀ (b:Bool) (i:Nat),ZG (pre++.own b e xs::post) i=if i=pre.length then .own b e xs else ZG (pre++.dead::post) i:=fun b i=>ZfH pre post _ i
 have hnr:∀ i d,i≠pre.length→¬ Z8 (ZG (pre++.dead::post) i) d 0:=by
  intro i d hi hr
  have hx:ZG (pre++.dead::post) i = .dead∨ZG (pre++.dead::post) i∈pre++post:=by
   unfold ZG
   cases hx:(pre++AV.dead::post)[i]? with
   | none => exact .inl rfl
   | some x =>
    have hm:=List.mem_of_getElem? hx
    rw [List.mem_append,List.mem_cons] at hm
    rcases hm with hm | rfl | hm
    ·exact .inr (List.mem_append_left _ hm)
    ·exact .inl rfl
    ·exact .inr (List.mem_append_right _ hm)
  rcases hx with hx | hx
  ·rw [hx] at hr
   rcases hr with hr | ⟨_,hr⟩ <;> cases hr
  ·exact hn _ hx d hr
 have h0:=hrel pre.length
 rw [hat,if_pos rfl] at h0
 have h0':ZP P w lim true e xs (cargs.getD pre.length undef) (X pre.length 0):=h0
 obtain ⟨lim1,he,hk,hown⟩:∃ lim1,Ext w lim w lim1∧(∀ b,X pre.length 0≠some b→lim1 b=lim b)∧ZP P w lim1 false e xs (cargs.getD pre.length undef) (X pre.length 0):=by
  cases hb:X pre.length 0 with
  | none => rw [hb] at h0'; exact ⟨lim, Ext.refl _ _, fun _ _ => rfl, Zi8 hnm h0'⟩
  | some b0 =>
   rw [hb] at h0'
   have hl0:lim b0=0:=by
    rcases h0'.noMap hnm with ⟨us,_,_,h3,_⟩ | ⟨_,h,_⟩
    ·rw [h3 b0 rfl];rfl
    ·cases h
   have hext:Ext w lim w (K3 lim b0 (xs.length*P.cellsOf e)):=fun b _=>by
    refine ⟨?_,fun o u _ hu=>hu⟩
    unfold K3
    split
    ·rename_i h;rw [h,hl0];exact Nat.zero_le _
    ·exact Nat.le_refl _
   exact ⟨_,hext,fun b hne=>if_neg fun e=>hne (by rw [e]),Za5 h0' hnm hext⟩
 have hrel1:∀ i,ZJ P w lim1 X (ZG (pre++.own false e xs::post)) i (ZG (pre++.own false e xs::post) i) (cargs.getD i undef):=by
  intro i
  by_cases hi:i=pre.length
  ·subst hi
   rw [hat,if_pos rfl]
   exact hown
  ·have h1:=hrel i
   have hne:ZG (pre++.own false e xs::post) i=ZG (pre++.own true e xs::post) i:=by rw [hat,hat,if_neg hi,if_neg hi]
   rw [hne]
   refine ZJ.chg (h1.mono he (fun k b hb=>⟨rfl,hk b fun e=>hi (hdist i k pre.length 0 b hb e).1⟩) fun d' k b hr _=>.of rfl) rfl (fun d' cs hd=>⟨⟨cs,?_⟩,rfl⟩) (fun d' hg=>⟨?_,rfl⟩) fun d' k hr=>?_
   ·rw [hat] at hd ⊢
    split at hd
    ·cases hd
    ·rename_i hd'
     rw [if_neg hd'];exact hd
   ·rw [hat] at hg ⊢
    split at hg
    ·cases hg
    ·rename_i hd'
     rw [if_neg hd'];exact hg
   ·rw [hat,if_neg hi] at hr
    refine ⟨?_,rfl⟩
    rw [hat,hat]
    by_cases hd:d'=pre.length
    ·rw [if_pos hd,if_pos hd]
     cases k with
     | zero => exact (hnr i d' hi hr).elim
     | succ k => intro _ _ h; cases h
    ·rw [if_neg hd,if_neg hd]
     exact Y5.refl _ _
 have hcnt:(pre++AV.own true e xs::post).countP AV.isG=(pre++AV.own false e xs::post).countP AV.isG:=by
  simp [List.countP_append,List.countP_cons,AV.isG]
 refine (h.2.2 w lim1 X cargs (by rw [← hcnt,← hll];exact hcl) hrel1 hdist hsize (by rw [← hll];exact hfar)).mono ?_
 rintro e' w' ⟨v,lim',X',he',hst,hol,hr,hd,hin,hgh,hnl,hnr⟩
 refine ⟨v,lim',X',he',⟨hst.os,hst.tape,hst.output,hst.size,hst.frz,fun b hb hn'=>?_,he.trans hst.ext (Nat.le_refl _)⟩,by rw [hol,hll],fun i=>by rw [hll];exact hr i,hd,hin,fun i hi=>?_,hnl,by rw [hll];exact hnr⟩
 ·obtain ⟨k1,k2⟩:=hst.blk b hb hn'
  exact ⟨k1,k2.trans (hk b fun e=>hn' ⟨_,_,e⟩)⟩
 ·obtain ⟨m1,m2⟩:=hgh i hi
  refine ⟨?_,m2⟩
  rw [hat] at m1 ⊢
  split at m1
  ·cases m1
  ·rename_i hi'
   rw [if_neg hi'];exact m1
theorem Zcm {P:Program} {d k:Nat} : ∀ (aZ:List AP) (xs:List AV),(∀ x∈Zez P aZ xs,¬ Z8 x d k)→∀ x∈xs,¬ Z8 x d k
 | [], xs, h => fun x hx => h x (by cases xs <;> exact hx)
 | _ :: _, [], _ => fun _ hx => by cases hx
 | a :: aZ, y :: ys, h => fun x hx => by
  rcases List.mem_cons.1 hx with rfl | hx
  ·rcases Zbv P a x with e | ⟨_,_,rfl,_⟩
   ·have:=h (ZgQ P a x) (List.mem_cons_self ..)
    rwa [e] at this
   ·rintro (h | ⟨_,h⟩)<;>cases h
  ·exact Zcm aZ ys (fun z hz=>h z (List.mem_cons_of_mem _ hz)) x hx
theorem Jw.freeze {P:Program} {f:FuncId} {res:AV} {outs:List AV} : ∀ (aZ:List AP) (xs pre:List AV),Jw P f (pre++Zez P aZ xs) res outs→(∀ x∈pre++Zez P aZ xs,∀ d,¬ Z8 x d 0)→Jw P f (pre++xs) res outs
 | [], xs, pre, h, _ => by cases xs <;> exact h
 | _ :: _, [], pre, h, _ => h
 | a :: aZ, x :: xs, pre, h, hn => by
  have h1:=Jw.freeze aZ xs (pre++[ZgQ P a x]) (by simpa [Zez] using h) (by simpa [Zez] using hn)
  rw [List.append_assoc,List.singleton_append] at h1
  rcases Zbv P a x with e | ⟨e,ys,rfl,e',hnm⟩
  ·rwa [e] at h1
  ·rw [e'] at h1
   refine h1.freeze1 (fun y hy d=>?_) hnm
   rcases List.mem_append.1 hy with hy | hy
   ·exact hn y (List.mem_append_left _ hy) d
   ·exact Zcm aZ xs (fun z hz=>hn z (List.mem_append_right _ (List.mem_cons_of_mem _ hz)) d) y hy
theorem ZhQ {P:Program} {a:AP} {x:AV} {vs:List V} (h:Zmw P a x=some vs) (d:Nat):¬ Z8 x d 0:=by
 rintro (rfl | ⟨_,rfl⟩)<;>cases a
 case inl.ref j q=>
  simp only [Zmw] at h
  split at h
  ·rename_i hh;exact hh.2.2 hh.2.1.symm
  ·cases h
 all_goals simp [Zmw,Zmc] at h
 all_goals (rename_i s;cases s<;>simp [Zmc] at h)
theorem Zct {P:Program} : ∀ (aZ:List AP) (xs:List AV) (vs:List V),Zby P aZ xs=some vs→∀ x∈xs,∀ d,¬ Z8 x d 0
 | _, [], _, _ => fun _ hx => by cases hx
 | [], _ :: _, _, h => by simp [Zby] at h
 | a :: aZ, x :: xs, ws, h => by
  simp only [Zby] at h
  split at h
  ·rename_i vs us hv hus
   intro y hy d
   rcases List.mem_cons.1 hy with rfl | hy
   ·exact ZhQ hv d
   ·exact Zct aZ xs us hus y hy d
  ·cases h
def Zmm {γ:Type} (P:Program) (S:Fun) (aZ:List AV) (k:List V→Option γ):Option γ:=
 match Zby P S.args (Zez P S.args aZ) with
 | some vs => (S.g vs).bind fun r => k (ZbW _ r)
 | none => none
theorem ZgO {γ:Type} {S:Fun} {aZ:List AV} {k:List V→Option γ} {x:γ} {P:Program} (h:Zmm P S aZ k=some x):∃ vs r,Zby P S.args (Zez P S.args aZ)=some vs∧S.g vs=some r∧k (ZbW _ r)=some x:=by
 unfold Zmm at h
 split at h
 ·rename_i vs hvs
  rw [Option.bind_eq_some_iff] at h
  obtain ⟨r,h1,h2⟩:=h
  exact ⟨vs,r,hvs,h1,h2⟩
 ·cases h
def ZmC (s:Sh) (x:SC) (m:Nat):Bool:=
 match s,x with
 | .int k, .int k' (.var a) => decide (k' = k) && decide (a = m)
 | .bool, .bool (.var a) => decide (a = m)
 | .str, .str (.var a) => decide (a = m)
 | .slice s, .slice false s' (.var a) => decide (s' = s) && decide (a = m)
 | _, _ => false
def ZgW:List Sh→List SC→Nat→Bool
 | [], [], _ => true
 | s :: ss, c :: cs, m => ZmC s c m && ZgW ss cs (m + 1)
 | _, _, _ => false
def ZnG (r:RSh) (x:TC) (m:Nat):Bool:=
 match r,x with
 | .c s, .c x => ZmC s x m
 | .c (.own x e), .own x' e' (.var a) => (decide (e' = e) && decide (a = m)) && (x' == x)
 | .agg l, .agg cs => ZgW l cs m
 | _, _ => false
def Zhb:List RSh→List TC→Nat→Bool
 | [], [], _ => true
 | r :: rs, x :: xs, m => ZnG r x m && Zhb rs xs (m + r.sh.length)
 | _, _, _ => false
def ZnF:SV→Option TC
 | .c x => some (.c x)
 | .agg cs => some (.agg cs)
 | .own x e l => some (.own x e l)
 | _ => none
def ZnP (s:Sh) (x:BC) (m:Nat):Bool:=
 match s,x with
 | s, .c x => ZmC s x m
 | .own x e, .own x' e' (.var a) => (decide (e' = e) && decide (a = m)) && (x' == x)
 | _, _ => false
def Zdo:List Sh→List BC→Nat→Bool
 | [], [], _ => true
 | s :: ss, c :: cs, m => ZnP s c m && Zdo ss cs (m + 1)
 | _, _, _ => false
def ZnW (rs:List RSh) (x:SV) (m:Nat):Bool:=
 match rs with
 | [r] => match r, x with | .box l, .box cs => Zdo l cs m | .aggo l, .aggo cs => Zdo l cs m | _, _ => match ZnF x with | some y => ZnG r y m | none => false
 | rs => match x with | .tuple vs => Zhb rs vs m | _ => false
def KL:List AP→List SV→Nat→Bool
 | [], [], _ => true
 | .box l :: r, .box cs :: xs, m => Zdo l cs m && KL r xs (m + l.length)
 | .gbox l :: r, .gbox cs :: xs, m => Zdo l cs m && KL r xs (m + l.length)
 | .c _ :: r, .dead :: xs, m => KL r xs m
 | .agg _ :: r, .dead :: xs, m => KL r xs m
 | .clo _ _ :: r, .dead :: xs, m => KL r xs m
 | .ref _ _ :: r, .dead :: xs, m => KL r xs m
 | .dead :: r, .dead :: xs, m => KL r xs m
 | _, _, _ => false
section
variable {ρ:Nat→V} {n:Nat} {us:List V}
theorem WH (j:Nat) (h:j < us.length):bind ρ n us (n+j)=vAt us j:=by
 unfold bind vAt
 rw [if_neg (by omega),show n+j-n=j by omega,List.getElem?_eq_getElem h]
 rfl
theorem ZcR {s:Sh} {x:SC} {j:Nat} (h:ZmC s x (n+j)=true) (hj:j < us.length):x.den (bind ρ n us)=YM s (vAt us j):=by
 unfold ZmC at h
 split at h
 ·simp only [Bool.and_eq_true,decide_eq_true_eq] at h
  obtain ⟨rfl,rfl⟩:=h
  simp only [SC.den,IE.den,WH j hj,YM]
 ·simp only [decide_eq_true_eq] at h
  subst h
  simp only [SC.den,BE.den,WH j hj,YM]
 ·simp only [decide_eq_true_eq] at h
  subst h
  simp only [SC.den,SE.den,WH j hj,YM]
 ·simp only [Bool.and_eq_true,decide_eq_true_eq] at h
  obtain ⟨rfl,rfl⟩:=h
  simp only [SC.den,LE.den,WH j hj,YM]
 ·cases h
theorem ZeJ:∀ (l:List Sh) (cs:List SC) (j:Nat),ZgW l cs (n+j)=true→j+l.length≤us.length→cs.map (SC.den (bind ρ n us))=ZU l us j
 | [], [], _, _, _ => rfl
 | [], _ :: _, _, h, _ => by simp [ZgW] at h
 | _ :: _, [], _, h, _ => by simp [ZgW] at h
 | s :: ss, c :: cs, j, h, hl => by
  simp only [ZgW,Bool.and_eq_true] at h
  simp only [List.length_cons] at hl
  rw [List.map_cons,ZU,ZcR h.1 (by omega),ZeJ ss cs (j+1) (by rw [← Nat.add_assoc];exact h.2) (by omega)]
theorem Zgz {r:RSh} {x:TC} {j:Nat} (h:ZnG r x (n+j)=true) (hj:j+r.sh.length≤us.length):x.den (bind ρ n us)=Yx r us j:=by
 unfold ZnG at h
 split at h
 ·exact ZcR h (by simp [RSh.sh] at hj;omega)
 ·simp only [Bool.and_eq_true,decide_eq_true_eq,beq_iff_eq] at h
  obtain ⟨⟨rfl,rfl⟩,rfl⟩:=h
  have hj':j < us.length:=by simp [RSh.sh] at hj;omega
  simp only [TC.den,LE.den,WH j hj',Yx,YM]
 ·simp only [TC.den,Yx,ZeJ _ _ j h hj]
 ·cases h
theorem Zd4:∀ (rs:List RSh) (xs:List TC) (j:Nat),Zhb rs xs (n+j)=true→j+(rs.flatMap RSh.sh).length≤us.length→xs.map (TC.den (bind ρ n us))=J6 rs us j
 | [], [], _, _, _ => rfl
 | [], _ :: _, _, h, _ => by simp [Zhb] at h
 | _ :: _, [], _, h, _ => by simp [Zhb] at h
 | r :: rs, x :: xs, j, h, hl => by
  simp only [Zhb,Bool.and_eq_true] at h
  simp only [List.flatMap_cons,List.length_append] at hl
  rw [List.map_cons,J6,Zgz h.1 (by omega),Zd4 rs xs (j+r.sh.length) (by rw [← Nat.add_assoc];exact h.2) (by omega)]
theorem Zf7 {x:SV} {y:TC} (h:ZnF x=some y) (ρ:Nat→V):x.den ρ=y.den ρ:=by
 unfold ZnF at h
 split at h<;>simp at h<;>subst h<;>rfl
theorem Zkr {s:Sh} {x:BC} {j:Nat} (h:ZnP s x (n+j)=true) (hj:j < us.length):x.den (bind ρ n us)=YM s (vAt us j):=by
 unfold ZnP at h
 split at h
 ·exact ZcR h hj
 ·simp only [Bool.and_eq_true,decide_eq_true_eq,beq_iff_eq] at h
  obtain ⟨⟨rfl,rfl⟩,rfl⟩:=h
  simp only [BC.den,LE.den,WH j hj,YM]
 ·cases h
theorem KQ:∀ (l:List Sh) (cs:List BC) (j:Nat),Zdo l cs (n+j)=true→j+l.length≤us.length→cs.map (BC.den (bind ρ n us))=ZU l us j
 | [], [], _, _, _ => rfl
 | [], _ :: _, _, h, _ => by simp [Zdo] at h
 | _ :: _, [], _, h, _ => by simp [Zdo] at h
 | s :: ss, c :: cs, j, h, hl => by
  simp only [Zdo,Bool.and_eq_true] at h
  simp only [List.length_cons] at hl
  rw [List.map_cons,ZU,Zkr h.1 (by omega),KQ ss cs (j+1) (by rw [← Nat.add_assoc];exact h.2) (by omega)]
theorem ZjK {rs:List RSh} {x:SV} (h:ZnW rs x n=true) (hl:ZdI rs≤us.length):x.den (bind ρ n us)=YR rs us 0:=by
 unfold ZnW at h
 split at h
 ·split at h
  ·rename_i l cs
   have h1:cs.map (BC.den (bind ρ n us))=ZU l us 0:=KQ l cs 0 h (by simpa [ZdI,RSh.sh] using hl)
   simp only [SV.den,YR,Yx,h1]
  ·rename_i l cs
   have h1:cs.map (BC.den (bind ρ n us))=ZU l us 0:=KQ l cs 0 h (by simpa [ZdI,RSh.sh] using hl)
   simp only [SV.den,YR,Yx,h1]
  ·split at h
   ·rename_i y hy
    rw [Zf7 hy]
    exact Zgz (j:=0) h (by simpa [ZdI] using hl)
   ·cases h
 ·rename_i hne
  split at h
  ·rename_i vs
   have:YR rs us 0 = .tuple (J6 rs us 0):=by
    unfold YR
    split
    ·exact (hne _ rfl).elim
    ·rfl
   rw [this]
   simp only [SV.den,Zd4 rs vs 0 h (by simpa [ZdI] using hl)]
  ·cases h
theorem Ys:∀ (aps:List AP) (xs:List SV) (j:Nat),KL aps xs (n+j)=true→j+(JV aps).length≤us.length→xs.map (SV.den (bind ρ n us))=Z0 aps us j
 | [], [], _, _, _ => rfl
 | [], _ :: _, _, h, _ => by simp [KL] at h
 | .box l :: r, x :: xs, j, h, hl => by
  cases x<;>simp [KL] at h
  rename_i cs
  simp only [JV,List.length_append] at hl
  have h1:cs.map (BC.den (bind ρ n us))=ZU l us j:=KQ l cs j h.1 (by omega)
  simp only [List.map_cons,Z0,SV.den,h1,Ys r xs (j+l.length) (by rw [← Nat.add_assoc];exact h.2) (by omega)]
 | .gbox l :: r, x :: xs, j, h, hl => by
  cases x<;>simp [KL] at h
  rename_i cs
  simp only [JV,List.length_append] at hl
  have h1:cs.map (BC.den (bind ρ n us))=ZU l us j:=KQ l cs j h.1 (by omega)
  simp only [List.map_cons,Z0,SV.den,h1,Ys r xs (j+l.length) (by rw [← Nat.add_assoc];exact h.2) (by omega)]
 | .c _ :: r, x :: xs, j, h, hl => by
  cases x<;>simp [KL] at h
  simp only [JV] at hl
  simp only [List.map_cons,Z0,SV.den,Ys r xs j h hl]
 | .agg _ :: r, x :: xs, j, h, hl => by
  cases x<;>simp [KL] at h
  simp only [JV] at hl
  simp only [List.map_cons,Z0,SV.den,Ys r xs j h hl]
 | .clo _ _ :: r, x :: xs, j, h, hl => by
  cases x<;>simp [KL] at h
  simp only [JV] at hl
  simp only [List.map_cons,Z0,SV.den,Ys r xs j h hl]
 | .ref _ _ :: r, x :: xs, j, h, hl => by
  cases x<;>simp [KL] at h
  simp only [JV] at hl
  simp only [List.map_cons,Z0,SV.den,Ys r xs j h hl]
 | .dead :: r, x :: xs, j, h, hl => by
  cases x<;>simp [KL] at h
  simp only [JV] at hl
  simp only [List.map_cons,Z0,SV.den,Ys r xs j h hl]
 | a :: _, [], _, h, _ => by cases a <;> simp [KL] at h
end
theorem Zf4:∀ (l:List Sh) (x:ShsT l),(ZbW l x).length=l.length
 | [], _ => rfl
 | [_], _ => rfl
 | _ :: t :: r, x => by simp [ZbW, Zf4 (t :: r) x.2]
def ZnK (P:Program) (r:RSh) (x:TC):Option (List VE):=
 match r,x with
 | .c s, .c x => (Zk3 s x).map fun v => [v]
 | .c s, .own x e l => (Zaz P s x e l).map fun v => [v]
 | .agg l, .agg cs => if l.all Sh.imm = true then ZeF l cs else none
 | _, _ => none
def ZfP (P:Program):List RSh→List TC→Option (List VE)
 | [], [] => some []
 | r :: rs, x :: xs => match ZnK P r x, ZfP P rs xs with | some v, some vs => some (v ++ vs) | _, _ => none
 | _, _ => none
def ZnZ (P:Program) (rs:List RSh) (x:SV):Option (List VE):=
 match rs with
 | [r] => match r, x with | .box l, .box cs => Zac P l cs | .aggo l, .aggo cs => Zac P l cs | _, _ => match ZnF x with | some y => ZnK P r y | none => none
 | rs => match x with | .tuple vs => ZfP P rs vs | _ => none
def Kp (P:Program):List AP→List SV→Option (List VE)
 | [], [] => some []
 | .box l :: r, .box cs :: xs => match Zac P l cs, Kp P r xs with | some v, some vs => some (v ++ vs) | _, _ => none
 | .gbox l :: r, .gbox cs :: xs => match Zac P l cs, Kp P r xs with | some v, some vs => some (v ++ vs) | _, _ => none
 | .c _ :: r, .dead :: xs => Kp P r xs
 | .agg _ :: r, .dead :: xs => Kp P r xs
 | .clo _ _ :: r, .dead :: xs => Kp P r xs
 | .ref _ _ :: r, .dead :: xs => Kp P r xs
 | .dead :: r, .dead :: xs => Kp P r xs
 | _, _ => none
def ZfT (P:Program) (aps:List AP) (rs:List RSh) (x:SV) (os:List SV):Option (List VE):=
 match ZnZ P rs x,Kp P aps os with
 | some vs, some us => some (vs ++ us)
 | _, _ => none
section
variable {P:Program} {ρ:Nat→V}
theorem Zje {r:RSh} {x:TC} {vs:List VE} (h:ZnK P r x=some vs):vs.length=r.sh.length∧∀ pre post:List V,Zad P (x.den ρ) (Yx r (pre++vs.map (VE.den ρ)++post) pre.length):=by
 unfold ZnK at h
 split at h
 ·cases hd:Zk3 _ _ with
  | none => rw [hd] at h; cases h
  | some v =>
   rw [hd] at h
   simp only [Option.map_some,Option.some.injEq] at h
   subst h
   refine ⟨rfl,fun pre post=>?_⟩
   simp only [Yx,List.map_cons,List.map_nil,List.append_assoc,List.cons_append,List.nil_append,K1]
   exact .cell (Zdc hd)
 ·cases hd:Zaz P _ _ _ _ with
  | none => rw [hd] at h; cases h
  | some v =>
   rw [hd] at h
   simp only [Option.map_some,Option.some.injEq] at h
   subst h
   refine ⟨rfl,fun pre post=>?_⟩
   simp only [Yx,List.map_cons,List.map_nil,List.append_assoc,List.cons_append,List.nil_append,K1]
   exact .cell (ZaA hd)
 ·split at h
  ·rename_i hi
   obtain ⟨h1,h2,h3⟩:=Zdp (P:=P) (ρ:=ρ) _ _ _ h
   exact ⟨h1,fun pre post=>.agg (by rw [List.length_map,h2,Jc]) (Kx _ _ _ hi) (h3 pre post)⟩
  ·cases h
 ·cases h
theorem WQ:∀ (rs:List RSh) (us:List V) (j:Nat),(J6 rs us j).length=rs.length
 | [], _, _ => rfl
 | _ :: ss, us, j => by simp [J6, WQ ss us]
theorem ZgM:∀ (rs:List RSh) (xs:List TC) (vs:List VE),ZfP P rs xs=some vs→vs.length=(rs.flatMap RSh.sh).length∧xs.length=rs.length∧∀ pre post:List V,
  ∀ (i:Nat) (c c':AV),(xs.map (TC.den ρ))[i]? = some c→(J6 rs (pre++vs.map (VE.den ρ)++post) pre.length)[i]? = some c'→Zad P c c'
 | [], [], vs, h => by
  simp only [ZfP,Option.some.injEq] at h
  subst h
  exact ⟨rfl,rfl,fun _ _ i c c' h=>by simp at h⟩
 | [], _ :: _, _, h => by simp [ZfP] at h
 | _ :: _, [], _, h => by simp [ZfP] at h
 | r :: rs, x :: xs, us, h => by
  simp only [ZfP] at h
  split at h
  ·rename_i v vs hv hvs
   simp only [Option.some.injEq] at h
   subst h
   obtain ⟨h1,h2⟩:=Zje (P:=P) (ρ:=ρ) hv
   obtain ⟨h3,h4,h5⟩:=ZgM rs xs vs hvs
   refine ⟨by simp [h1,h3],by simp [h4],fun pre post i c1 c2 hc1 hc2=>?_⟩
   cases i with
   | zero =>
    simp only [J6,List.map_cons,List.getElem?_cons_zero,Option.some.injEq] at hc1 hc2
    subst hc1
    subst hc2
    have:=h2 pre (vs.map (VE.den ρ)++post)
    simpa [List.append_assoc] using this
   | succ i =>
    have:=h5 (pre++v.map (VE.den ρ)) post i c1 c2 (by simpa using hc1)
    rw [List.length_append,List.length_map,h1] at this
    simp only [J6,List.getElem?_cons_succ] at hc2
    refine this ?_
    simpa [List.append_assoc] using hc2
  ·cases h
theorem Zlv {rs:List RSh} {x:SV} {vs:List VE} (h:ZnZ P rs x=some vs):vs.length=ZdI rs∧∀ post:List V,Yt P (x.den ρ) (YR rs (vs.map (VE.den ρ)++post) 0):=by
 unfold ZnZ at h
 split at h
 ·split at h
  ·rename_i l cs
   obtain ⟨h1,h2,h3⟩:=Kz (P:=P) (ρ:=ρ) _ _ _ h
   refine ⟨by simpa [ZdI,RSh.sh] using h1,fun post=>?_⟩
   have:=h3 [] post
   exact .box (by rw [List.length_map,h2,Jc]) (by simpa [YR,Yx] using this)
  ·rename_i l cs
   obtain ⟨h1,h2,h3⟩:=Kz (P:=P) (ρ:=ρ) _ _ _ h
   refine ⟨by simpa [ZdI,RSh.sh] using h1,fun post=>?_⟩
   have:=h3 [] post
   exact .aggo (by rw [List.length_map,h2,Jc]) (by simpa [YR,Yx] using this)
  ·split at h
   ·rename_i y hy
    obtain ⟨h1,h2⟩:=Zje (P:=P) (ρ:=ρ) h
    refine ⟨by simpa [ZdI] using h1,fun post=>?_⟩
    rw [Zf7 hy]
    have:=h2 [] post
    exact .comp (by simpa [YR] using this)
   ·cases h
 ·rename_i hne
  split at h
  ·rename_i ys
   obtain ⟨h1,h2,h3⟩:=ZgM (P:=P) (ρ:=ρ) _ _ _ h
   refine ⟨h1,fun post=>?_⟩
   have:∀ us,YR rs us 0 = .tuple (J6 rs us 0):=by
    intro us
    unfold YR
    split
    ·exact (hne _ rfl).elim
    ·rfl
   rw [this]
   refine .tuple (by rw [List.length_map,h2,WQ]) fun i c c' hc hc'=>h3 [] post i c c' hc ?_
   simpa using hc'
  ·cases h
theorem ZbG:∀ (aps:List AP) (us:List V) (j:Nat),(Z0 aps us j).length=aps.length
 | [], _, _ => rfl
 | a :: r, us, j => by cases a <;> simp [Z0, ZbG r us]
theorem Y0:∀ (aps:List AP) (xs:List SV) (vs:List VE),Kp P aps xs=some vs→vs.length=(JV aps).length∧xs.length=aps.length∧∀ pre post:List V,
  ∀ (i:Nat) (c c':AV),(xs.map (SV.den ρ))[i]? = some c→(Z0 aps (pre++vs.map (VE.den ρ)++post) pre.length)[i]? = some c'→Yt P c c'
 | [], [], vs, h => by
  simp only [Kp,Option.some.injEq] at h
  subst h
  exact ⟨rfl,rfl,fun _ _ i c c' h=>by simp at h⟩
 | [], _ :: _, _, h => by simp [Kp] at h
 | a :: _, [], _, h => by cases a <;> simp [Kp] at h
 | .box l :: r, x :: xs, us, h => by
  cases x<;>simp only [Kp,reduceCtorEq] at h
  split at h
  ·rename_i cs v vs hv hvs
   simp only [Option.some.injEq] at h
   subst h
   obtain ⟨h1,h2,h3⟩:=Kz (P:=P) (ρ:=ρ) _ _ _ hv
   obtain ⟨h4,h5,h6⟩:=Y0 r xs vs hvs
   refine ⟨by simp [h1,h4,JV],by simp [h5],fun pre post i c1 c2 hc1 hc2=>?_⟩
   cases i with
   | zero =>
    simp only [Z0,List.map_cons,List.getElem?_cons_zero,Option.some.injEq,SV.den] at hc1 hc2
    subst hc1
    subst hc2
    have:=h3 pre (vs.map (VE.den ρ)++post)
    exact .box (by rw [List.length_map,h2,Jc]) (by simpa [List.append_assoc] using this)
   | succ i =>
    have:=h6 (pre++v.map (VE.den ρ)) post i c1 c2 (by simpa using hc1)
    rw [List.length_append,List.length_map,h1] at this
    simp only [Z0,List.getElem?_cons_succ] at hc2
    refine this ?_
    simpa [List.append_assoc] using hc2
  ·cases h
 | .gbox l :: r, x :: xs, us, h => by
  cases x<;>simp only [Kp,reduceCtorEq] at h
  split at h
  ·rename_i cs v vs hv hvs
   simp only [Option.some.injEq] at h
   subst h
   obtain ⟨h1,h2,h3⟩:=Kz (P:=P) (ρ:=ρ) _ _ _ hv
   obtain ⟨h4,h5,h6⟩:=Y0 r xs vs hvs
   refine ⟨by simp [h1,h4,JV],by simp [h5],fun pre post i c1 c2 hc1 hc2=>?_⟩
   cases i with
   | zero =>
    simp only [Z0,List.map_cons,List.getElem?_cons_zero,Option.some.injEq,SV.den] at hc1 hc2
    subst hc1
    subst hc2
    have:=h3 pre (vs.map (VE.den ρ)++post)
    exact .gbox (by rw [List.length_map,h2,Jc]) (by simpa [List.append_assoc] using this)
   | succ i =>
    have:=h6 (pre++v.map (VE.den ρ)) post i c1 c2 (by simpa using hc1)
    rw [List.length_append,List.length_map,h1] at this
    simp only [Z0,List.getElem?_cons_succ] at hc2
    refine this ?_
    simpa [List.append_assoc] using hc2
  ·cases h
 | .c s :: r, x :: xs, us, h => by
  cases x<;>simp only [Kp,reduceCtorEq] at h
  exact retOs_dead (a:=.c s) r xs us (Y0 r xs us h) (fun _ _=>rfl) rfl
 | .agg l :: r, x :: xs, us, h => by
  cases x<;>simp only [Kp,reduceCtorEq] at h
  exact retOs_dead (a:=.agg l) r xs us (Y0 r xs us h) (fun _ _=>rfl) rfl
 | .clo g ds :: r, x :: xs, us, h => by
  cases x<;>simp only [Kp,reduceCtorEq] at h
  exact retOs_dead (a:=.clo g ds) r xs us (Y0 r xs us h) (fun _ _=>rfl) rfl
 | .ref g ds :: r, x :: xs, us, h => by
  cases x<;>simp only [Kp,reduceCtorEq] at h
  exact retOs_dead (a:=.ref g ds) r xs us (Y0 r xs us h) (fun _ _=>rfl) rfl
 | .dead :: r, x :: xs, us, h => by
  cases x<;>simp only [Kp,reduceCtorEq] at h
  exact retOs_dead (a:=.dead) r xs us (Y0 r xs us h) (fun _ _=>rfl) rfl
where
 retOs_dead {a:AP} (r:List AP) (xs:List SV) (us:List VE) (h:us.length=(JV r).length∧xs.length=r.length∧∀ pre post:List V,
   ∀ (i:Nat) (c c':AV),(xs.map (SV.den ρ))[i]? = some c→(Z0 r (pre++us.map (VE.den ρ)++post) pre.length)[i]? = some c'→Yt P c c')
   (ha:∀ vs j,Z0 (a::r) vs j = .dead::Z0 r vs j) (hs:JV (a::r)=JV r):us.length=(JV (a::r)).length∧(SV.dead::xs).length=(a::r).length∧∀ pre post:List V,
   ∀ (i:Nat) (c c':AV),((SV.dead::xs).map (SV.den ρ))[i]? = some c→(Z0 (a::r) (pre++us.map (VE.den ρ)++post) pre.length)[i]? = some c'→Yt P c c':=by
  obtain ⟨h4,h5,h6⟩:=h
  refine ⟨by rw [hs];exact h4,by simp [h5],fun pre post i c1 c2 hc1 hc2=>?_⟩
  rw [ha] at hc2
  cases i with
  | zero =>
   simp only [List.map_cons,List.getElem?_cons_zero,Option.some.injEq] at hc1 hc2
   subst hc2
   exact .dead
  | succ i => exact h6 pre post i c1 c2 (by simpa using hc1) (by simpa using hc2)
theorem Zha {aps:List AP} {rs:List RSh} {x:SV} {os:List SV} {vs:List VE} (h:ZfT P aps rs x os=some vs) :
  KG P (os.map (SV.den ρ)++[x.den ρ]) (Z0 aps (vs.map (VE.den ρ)) (ZdI rs)++[YR rs (vs.map (VE.den ρ)) 0]):=by
 unfold ZfT at h
 split at h
 ·rename_i a b ha hb
  simp only [Option.some.injEq] at h
  subst h
  obtain ⟨h1,h2⟩:=Zlv (ρ:=ρ) ha
  obtain ⟨h3,h4,h5⟩:=Y0 (P:=P) (ρ:=ρ) _ _ _ hb
  have hlo:(os.map (SV.den ρ)).length=(Z0 aps ((a++b).map (VE.den ρ)) (ZdI rs)).length:=by rw [List.length_map,h4,ZbG]
  refine ⟨by simp only [List.length_append,hlo,List.length_cons,List.length_nil],fun i c c' hc hc'=>?_⟩
  by_cases hi:i < (os.map (SV.den ρ)).length
  ·rw [List.getElem?_append_left hi] at hc
   rw [List.getElem?_append_left (by rw [← hlo];exact hi)] at hc'
   have:=h5 (a.map (VE.den ρ)) [] i c c' hc
   rw [List.length_map,h1] at this
   exact .inl (this (by simpa using hc'))
  ·rw [List.getElem?_append_right (by omega)] at hc
   rw [List.getElem?_append_right (by rw [← hlo];omega),← hlo] at hc'
   have h0:i-(os.map (SV.den ρ)).length=0:=by
    have:=(List.getElem?_eq_some_iff.1 hc).1
    simp only [List.length_cons,List.length_nil] at this
    omega
   rw [h0] at hc hc'
   simp only [List.getElem?_cons_zero,Option.some.injEq] at hc hc'
   subst hc
   subst hc'
   rw [List.map_append]
   exact .inl (h2 _)
 ·cases h
end
def ZlV {γ:Type} (A:Nat→List V→Option γ) (n:Nat) (B:List V→Option γ):Nat→List V→Option γ:=fun i vs=>if i=n then B vs else A i vs
noncomputable def STree.run (P:Program) (Φ:List (FuncId×Fun)) (aps:List AP) (rs:List RSh):STree→(Nat→List V→Option (ShsT (ZbQ rs aps)))→(Nat→V)→Option (ShsT (ZbQ rs aps))
 | .stuck _, _, _ => none
 | .branch b t e, A, ρ => if b.den ρ = true then t.run P Φ aps rs A ρ else e.run P Φ aps rs A ρ
 | .req p t, A, ρ => @ZF _ (p.den ρ) (p.decDen ρ) (t.run P Φ aps rs A ρ)
 | .elem l i sh n t, A, ρ => Jk (l.den ρ) (i.den ρ) sh fun r => t.run P Φ aps rs A (bind ρ n (ZbW sh r))
 | .nilq l n t, A, ρ => @Zg0 _ (decS _) (l.den ρ) fun b => t.run P Φ aps rs A (bind ρ n [.b b])
 | .call f args res outs n _ t, A, ρ =>
  match Zi1 Φ f (args.filterMap SV.sig) with
  | some S => if ZnW S.res res n = true ∧ KL S.args outs (n + ZdI S.res) = true ∧ Wg S.args = true then Zmm P S (args.map (SV.den ρ)) fun us => t.run P Φ aps rs A (bind ρ n us) else none
  | none => none
 | .loop lv init n t, A, ρ => ZbZ (fun rec vs => t.run P Φ aps rs (ZlV A lv rec) (bind Zex n vs)) VP (init.map (VE.den ρ))
 | .again lv vals, A, ρ => A lv (vals.map (VE.den ρ))
 | .ret res outs, _, ρ => match ZfT P aps rs res outs with | some vs => Zld _ (vs.map (VE.den ρ)) | none => none
theorem Zn8 {p:Nat→Prop} (h:∃ k,p k):∃ k,p k∧∀ j,j < k→¬ p j:=by
 obtain ⟨k,hk⟩:=h
 induction k using Nat.strongRecOn with
 | _ k ih =>
  by_cases hj:∃ j,j < k∧p j
  ·obtain ⟨j,h1,h2⟩:=hj
   exact ih j h1 h2
  ·exact ⟨k,hk,fun j h1 h2=>hj ⟨j,h1,h2⟩⟩
section
variable {P:Program} {Φ:List (FuncId×Fun)} {aps:List AP} {rs:List RSh}
theorem WP (hΦ:Ziy P Φ) {r:ShsT (ZbQ rs aps)} {R:AV→List AV→Prop} (hR:∀ x os,KG P (os++[x]) (Z0 aps (ZbW _ r) (ZdI rs)++[YR rs (ZbW _ r) 0])→R x os) :
  ∀ (t:STree) (A':Nat→List V→Option (ShsT (ZbQ rs aps))) (A:Nat→List V→Prop) (ρ:Nat→V),(∀ lv vs,A' lv vs=some r→A lv vs)→t.run P Φ aps rs A' ρ=some r→t.wp P R A ρ
 | .stuck _, _, _, _, _, h => by simp [STree.run] at h
 | .branch b t e, A', A, ρ, hA, h => by
  simp only [STree.run] at h
  refine ⟨fun hb=>?_,fun hb=>?_⟩
  ·rw [if_pos hb] at h
   exact WP hΦ hR t A' A ρ hA h
  ·rw [if_neg (by rw [hb];exact Bool.false_ne_true)] at h
   exact WP hΦ hR e A' A ρ hA h
 | .req p t, A', A, ρ, hA, h => by
  obtain ⟨h1,h2⟩:=Js (show @ZF _ (p.den ρ) (p.decDen ρ) (t.run P Φ aps rs A' ρ)=some r from h)
  exact ⟨h1,WP hΦ hR t A' A ρ hA h2⟩
 | .elem l i sh n t, A', A, ρ, hA, h => by
  obtain ⟨h0,cs,x,h1,h2,h3⟩:=Zhw (show Jk (l.den ρ) (i.den ρ) sh (fun r=>t.run P Φ aps rs A' (bind ρ n (ZbW sh r)))=some r from h)
  refine ⟨ZbW sh x,h0,?_,WP hΦ hR t A' A _ hA h3⟩
  rw [h1,ZgA sh cs x n _ h2 (Zgr.bind ρ n _)]
 | .nilq l n t, A', A, ρ, hA, h => fun b hb => WP hΦ hR t A' A _ hA (ZhC (show @Zg0 _ (decS _) (l.den ρ) (fun b => t.run P Φ aps rs A' (bind ρ n [.b b])) = some r from h) b hb)
 | .call f args res outs n sh t, A', A, ρ, hA, h => by
  simp only [STree.run] at h
  split at h
  ·rename_i S hS
   split at h
   ·rename_i hfit
    obtain ⟨vs,x,h1,h2,h3⟩:=ZgO h
    have hlen:=Zf4 _ x
    have hl2:(ZbQ S.res S.args).length=ZdI S.res+(JV S.args).length:=by simp [ZbQ,ZdI]
    refine ⟨ZbW _ x,?_,WP hΦ hR t A' A _ hA h3⟩
    rw [ZjK hfit.1 (by omega),Ys S.args outs (ZdI S.res) hfit.2.1 (by omega)]
    exact Jw.freeze S.args _ [] ((Zgt hΦ hS vs x h2).stronger (ZfJ hfit.2.2 h1)) (Zct _ _ _ h1)
   ·cases h
  ·cases h
 | .loop lv init n t, A', A, ρ, hA, h => by
  let F:=fun (rec:List V→Option (ShsT (ZbQ rs aps))) vs=>t.run P Φ aps rs (ZlV A' lv rec) (bind Zex n vs)
  have hF:ZbZ F VP (init.map (VE.den ρ))=some r:=h
  have hm:∀ vs,∃ m:Nat,(∃ k,ZbZ F k vs=some r)→ZbZ F m vs=some r∧∀ j,ZbZ F j vs=some r→m≤j:=by
   intro vs
   by_cases hk:∃ k,ZbZ F k vs=some r
   ·obtain ⟨m,h1,h2⟩:=Zn8 hk
    exact ⟨m,fun _=>⟨h1,fun j hj=>Nat.le_of_not_lt fun hlt=>h2 j hlt hj⟩⟩
   ·exact ⟨0,fun h=>(hk h).elim⟩
  obtain ⟨m,hm⟩:=Classical.axiomOfChoice hm
  refine ⟨fun vs=>∃ k,ZbZ F k vs=some r,m,⟨VP,hF⟩,fun vs _ hk=>?_⟩
  obtain ⟨h1,h2⟩:=hm vs hk
  cases hmv:m vs with
  | zero => rw [hmv] at h1; cases h1
  | succ j =>
   rw [hmv] at h1
   refine WP hΦ hR t (ZlV A' lv (ZbZ F j)) _ _ (fun lv' vs' hv=>?_) h1
   unfold ZlV at hv
   unfold ZmR
   split at hv
   ·rename_i he
    rw [if_pos he]
    refine ⟨⟨j,hv⟩,?_⟩
    have:=(hm vs' ⟨j,hv⟩).2 j hv
    omega
   ·rename_i he
    rw [if_neg he]
    exact hA lv' vs' hv
 | .again lv vals, A', A, ρ, hA, h => hA lv _ h
 | .ret res outs, A', A, ρ, hA, h => by
  simp only [STree.run] at h
  split at h
  ·rename_i vs hvs
   refine hR _ _ ?_
   rw [ZdM _ _ _ h]
   exact Zha hvs
  ·cases h
end
end Go.AM
end

section
namespace Go.AM
abbrev LL:Type:=List (List AV)
abbrev E0:LL:=[]
def ZmN (l:List (List AV)):Prop:=∀ e∈l,∃ n:Int,0≤n∧n≤255∧e = [.val (.int .u8 n)]
def YL (a b:List (List AV)) (k:Nat):Prop:=(a.length+b.length)*(k+1)≤Z1
def ZnQ (a:Int) (k:Nat):Prop:=0≤a∧a.toNat*(k+1)≤Z1
instance (l:List (List AV)):Decidable (ZmN l):=ZgC l
instance (a b:List (List AV)) (k:Nat):Decidable (YL a b k):=inferInstanceAs (Decidable ((a.length+b.length)*(k+1)≤Z1))
instance (a:Int) (k:Nat):Decidable (ZnQ a k):=inferInstanceAs (Decidable (0≤a∧a.toNat*(k+1)≤Z1))
instance (l:List (List AV)):Decidable (l≠[]):=ZhO l
theorem CQ:(∀ a b:Int,(cop .lss a b=true)=(a < b))∧(∀ a b:Int,(cop .lss a b=false)=(b≤a))∧(∀ a b:Int,(cop .leq a b=true)=(a≤b))∧(∀ a b:Int,(cop .leq a b=false)=(b < a))∧
  (∀ a b:Int,(cop .gtr a b=true)=(b < a))∧(∀ a b:Int,(cop .gtr a b=false)=(a≤b))∧(∀ a b:Int,(cop .geq a b=true)=(b≤a))∧(∀ a b:Int,(cop .geq a b=false)=(a < b))∧
  (∀ a b:Int,(cop .eql a b=true)=(a=b))∧(∀ a b:Int,(cop .eql a b=false)=(a≠b))∧(∀ a b:Int,(cop .neq a b=true)=(a≠b))∧(∀ a b:Int,(cop .neq a b=false)=(a=b))∧
  (∀ b:Bool,(¬b=true)=(b=false))∧(∀ b:Bool,(¬b=false)=(b=true))∧(∀ b:Bool,((!b)=true)=(b=false))∧(∀ b:Bool,((!b)=false)=(b=true))∧
  (∀ a b:Bool,((a&&b)=true)=(a=true∧b=true))∧(∀ a b:Bool,((a||b)=true)=(a=true∨b=true))∧(∀ {p:Prop} [Decidable p],(decide p=true)=p)∧(∀ {p:Prop} {_:Decidable p},decide p=false↔¬p)∧
  ((false=true)=False)∧((true=false)=False)∧(∀ {α β:Type} (a:α) (f:α→Option β),(some a).bind f=f a)∧(∀ {α:Type} (x y:α),(some x=some y)=(x=y))∧
  (∀ p:Prop,(False↔p) = ¬p)∧(∀ p:Prop,(True↔p)=p)∧(∀ p:Prop,(p↔False) = ¬p)∧(∀ p:Prop,(p↔True)=p):=
 ⟨Zjn,Ziq,Zh6,Zh1,Zid,Zie,ZhM,ZiB,ZiG,Zh0,Zjd,Zia,Bool.not_eq_true,Bool.not_eq_false,Bool.not_eq_true',Bool.not_eq_false',Bool.and_eq_true,Bool.or_eq_true,
  @decide_eq_true_eq,@decide_eq_false_iff_not,Bool.false_eq_true,Bool.true_eq_false,@Option.bind_some,@Option.some.injEq,false_iff,true_iff,iff_false,iff_true⟩
def STree.next:STree→STree
 | .branch _ t _ => t
 | .req _ t => t
 | .elem _ _ _ _ t => t
 | .nilq _ _ t => t
 | .call _ _ _ _ _ _ t => t
 | .loop _ _ _ t => t
 | t => t
def STree.other:STree→STree
 | .branch _ _ e => e
 | t => t
def STree.nexts:Nat→STree→STree
 | 0, t => t
 | k + 1, t => STree.nexts k t.next
def STree.go:STree→List Nat→STree
 | t, [] => t
 | t, 0 :: p => t.next.go p
 | t, 1 :: p => t.other.go p
 | t, k :: p => (STree.nexts k t).go p
@[reducible] def d2 {α β γ:Type} (r:α×β×γ):γ:=r.2.2
def AP.hp:AP→HP
 | .c s => .c s
 | .agg l => .agg l
 | .box l => .box l
 | .gbox l => .gbox l
 | .clo g ds => .clo g ds
 | .ref j q => .mref j q
 | .dead => .dead
def Wa:List AP→Nat→List SV
 | [], _ => []
 | a :: r, n => Zju a.hp n :: Wa r (n + a.n)
def Zmy:List AP→Nat
 | [] => 0
 | a :: r => a.n + Zmy r
def apsFine (l:List AP):Bool:=l.all fun a=>a.hp.fine
theorem Zku (a:AP) (us:List V) (j:Nat):Zjj a us j=Vk a.hp us j:=by cases a<;>rfl
theorem Zcb:∀ (l:List AP) (n:Nat) (us:List V),apsFine l=true→(Wa l n).map (SV.den (Znh us))=KE l us n
 | [], _, _, _ => rfl
 | a :: r, n, us, h => by
  simp only [apsFine,List.all_cons,Bool.and_eq_true] at h
  rw [Wa,List.map_cons,KE,Zku,Zi5 (m:=n) h.1 (ρ:=Znh us) (us:=us) (fun j _=>rfl),Zcb r (n+a.n) us h.2]
theorem Zee:∀ (l:List AP) (n:Nat),∀ x∈Wa l n,x.bd (n+Zmy l)
 | [], _ => by simp [Wa]
 | a :: r, n => by
  intro x hx
  simp only [Wa,List.mem_cons] at hx
  rcases hx with rfl | hx
  ·have hb:(Zju a.hp n).bd (n+a.n):=by
    cases a with
    | c s => cases s <;> exact Nat.lt_succ_self n
    | agg l => exact Jp l n
    | box l => exact JG l n
    | gbox l => exact JG l n
    | clo g ds => trivial
    | ref j q => trivial
    | dead => trivial
   exact SV.bd_mono (by simp only [Zmy];omega) _ hb
  ·have:=Zee r (n+a.n) x hx
   rw [Zmy,← Nat.add_assoc]
   exact this
section
variable {P:Program}
theorem fun_ok {Φ : List (FuncId × Fun)} {E : Env} (hm : P.follows .mixedOrders = true) (hps : EnvSound P E) {f : FuncId} {fn : Func} {S : Fun} {n : Nat} {T : STree} (hf : P.funcs[f]? = some fn) (hname : (fn.name == "runtime.NumGoroutine") = false)
  (hfine:apsFine S.args=true) (hn:Zmy S.args=n) (eq:ZnJ P E fn (Wa S.args 0) n=T) (hΦ:Ziy P Φ) (hg:∀ vs,S.g vs=T.run P Φ S.args S.res (fun _ _=>none) (Znh vs)):S.Ok P f:=by
 intro vs r h
 rw [hg] at h
 have:=callOk_ofR (R:=fun x os=>KG P (os++[x]) (Z0 S.args (ZbW _ r) (ZdI S.res)++[YR S.res (ZbW _ r) 0])) hm hps hf hname (args:=Wa S.args 0) (n:=n) (ρ:=Znh vs)
  (fun a ha=>by have:=Zee S.args 0 a ha;rwa [Nat.zero_add,hn] at this) (fun _ _ h=>h) (by rw [eq];exact WP hΦ (fun _ _ h=>h) T _ _ _ (fun _ _ h=>by cases h) h)
 rw [Zcb S.args 0 vs hfine] at this
 exact this
end
end Go.AM
end

section
set_option linter.unusedVariables false
set_option linter.unusedSimpArgs false
namespace Go.AM
open Go.Shelf Go.RowKit Go.Lib
variable {P:Program}
theorem Yz (w:World) (dT sT ty elem:TypeId) (inf:TypeInfo) (g o dLen dCap:Nat) (a:Addr) (sLen sCap n:Nat) (cur:Array Value) (t:TypeId) (cs:List Value)
  (hu:P.underlying dT=some (.slice elem)) (hs:P.info? elem=some inf) (hg:w.heap[g]? = some (.cells cur t (0,0))) (hn:n=Nat.min sLen dLen) (hl:cs.length=n*inf.size)
  (hsrc:∀ j v,cs[j]? = some v→w.cell? (a.add j)=some v) (hfit:o+cs.length≤cur.size) (h1:∀ v∈cs,v.oneCell'=true) :
  (Builtin.copy_ #[dT,sT] ty #[.slice (some ⟨g,o,none⟩) dLen dCap,.slice (some a) sLen sCap]).run P w =
   .ok (goInt n) (w.setRow g (cur.toList.take o++cs++cur.toList.drop (o+cs.length)).toArray):=by
 have hl':=run_loadCells_list (P:=P) w a cs hsrc
 have hst:=run_storeCells_at P g o t cs 0 cur w hg (by simpa using hfit) h1
 rw [hl] at hl'
 simp [Builtin.copy_,run_underlying hu,Builtin.lenOf,Builtin.firstCells,sizeOf,typeInfo,hs,← hn,hl',hst]
theorem ZdS (w:World) {o:Oper} {a:Act} {K:Act→World→Prop} {Q:Exit→Act→World→Prop} (d s:Operand) (t t':TypeId)
  (ho:o.op = .call { callee:=.builtin .copy,args:=#[d,s],argTypes:=#[t,t'] }) (v u:Value) (hd:a.eval d=v) (hs:a.eval s=u) {v':Value} {w':World}
  (hr:(Builtin.copy_ #[t,t'] o.type #[v,u]).run P w = .ok v' w') (h:K (a.put o.dst v') w'):o.wp P a w K Q:=by
 unfold Oper.wp execOp
 simp only [ho,resolve,invoke,builtin,Sem.run_bind,Sem.run_pure,Result.andThen_ok,List.map_toArray,List.map_cons,List.map_nil,hd,hs,hr]
 exact h
theorem KH (w:World) {ops:Array Oper} {rest:List Oper} {o:Oper} {a:Act} {Q:Exit→Act→World→Prop} (hgd:o.guard=none) (d s:Operand) (t t':TypeId)
  (ho:o.op = .call { callee:=.builtin .copy,args:=#[d,s],argTypes:=#[t,t'] }) (v u:Value) (hd:a.eval d=v) (hs:a.eval s=u) {v':Value} {w':World}
  (hr:(Builtin.copy_ #[t,t'] o.type #[v,u]).run P w = .ok v' w') (h:wpList P ops Q rest (a.put o.dst v') w'):wpList P ops Q (o::rest) a w:=
 wpList_plain hgd fun _ hK=>ZdS w d s t t' ho v u hd hs hr (hK _ _ h)
theorem Vr {ops:Array Oper} {o:Oper} {a:Act} {w:World} {K:Act→World→Prop} {Q:Exit→Act→World→Prop} {E:Prop}
  (hg:o.guard=none) (d x:Operand) (dT sT:TypeId) (hop:o.op=Op.call { callee:=Callee.builtin Builtin.copy,args:=#[d,x],argTypes:=#[dT,sT] })
  (v u:Value) (hd:a.eval d=v) (hx:a.eval x=u) {v':Value} {w':World} (hr:(Builtin.copy_ #[dT,sT] o.type #[v,u]).run P w = .ok v' w') (hK:K (a.put o.dst v') w') :
  if Region.wanted o (yielded ops a.tmps)=true then Oper.wp P o a w K Q else E:=by
 have hw:Region.wanted o (yielded ops a.tmps)=true:=by simp [Region.wanted,hg]
 rw [if_pos hw]
 unfold Oper.wp
 simp [execOp,hop,resolve,invoke,builtin,hd,hx,hr,Result.andThen]
 exact hK
def insCode (T B I:TypeId) (fO fR:FuncId):Code:=
  (.seq (.region 0 #[
    ⟨some 6, .assign (.const (.slice none 0 0)), T, "slices.go:136", #[], none⟩] false)
  (.seq (.region 1 #[
    ⟨some 10, .move (.tmp 0), T, "slices.go:137", #[], none⟩,
    ⟨some 11, .move (.tmp 1), I, "slices.go:137", #[], none⟩,
    ⟨some 12, .slice T (.tmp 10) (some (.tmp 11)) none none, T, "slices.go:137", #[⟨0, .data⟩, ⟨1, .data⟩], none⟩] false)
  (.seq (.region 2 #[
    ⟨some 13, .move (.tmp 2), T, "slices.go:139", #[], none⟩,
    ⟨some 14, .call ⟨.builtin .len, #[(.tmp 13)], #[T]⟩, I, "slices.go:139", #[⟨0, .data⟩], none⟩,
    ⟨some 7, .assign (.tmp 14), I, "slices.go:139", #[⟨1, .data⟩, ⟨0, .phase⟩, ⟨1, .phase⟩], none⟩] false)
  (.seq (.seq (.region 3 #[
    ⟨some 15, .move (.tmp 7), I, "slices.go:140", #[], none⟩,
    ⟨some 16, .binOp .eql I (.tmp 15) (.const (.int .i64 0)) I, B, "slices.go:140", #[⟨0, .data⟩], none⟩] false)
  (.cond (.tmp 16)
   (.seq (.region 4 #[
     ⟨some 17, .move (.tmp 0), T, "slices.go:141", #[], none⟩,
     ⟨some 6, .assign (.tmp 17), T, "slices.go:141", #[⟨0, .data⟩, ⟨0, .phase⟩], none⟩] false)
   .ret)
   .skip))
  (.seq (.region 5 #[
    ⟨some 18, .move (.tmp 0), T, "slices.go:143", #[], none⟩,
    ⟨some 19, .call ⟨.builtin .len, #[(.tmp 18)], #[T]⟩, I, "slices.go:143", #[⟨0, .data⟩], none⟩,
    ⟨some 8, .assign (.tmp 19), I, "slices.go:143", #[⟨1, .data⟩, ⟨0, .phase⟩, ⟨1, .phase⟩], none⟩] false)
  (.seq (.seq (.region 6 #[
    ⟨some 20, .move (.tmp 1), I, "slices.go:144", #[], none⟩,
    ⟨some 21, .move (.tmp 8), I, "slices.go:144", #[], none⟩,
    ⟨some 22, .binOp .eql I (.tmp 20) (.tmp 21) I, B, "slices.go:144", #[⟨0, .data⟩, ⟨1, .data⟩], none⟩] false)
  (.cond (.tmp 22)
   (.seq (.region 7 #[
     ⟨some 23, .move (.tmp 0), T, "slices.go:145", #[], none⟩,
     ⟨some 24, .move (.tmp 2), T, "slices.go:145", #[], none⟩,
     ⟨some 25, .call ⟨.builtin .append, #[(.tmp 23), (.tmp 24)], #[T, T]⟩, T, "slices.go:145", #[⟨0, .data⟩, ⟨1, .data⟩], none⟩,
     ⟨some 6, .assign (.tmp 25), T, "slices.go:145", #[⟨2, .data⟩, ⟨2, .chain⟩, ⟨0, .phase⟩, ⟨1, .phase⟩, ⟨2, .phase⟩], none⟩] false)
   .ret)
   .skip))
  (.seq (.seq (.region 8 #[
    ⟨some 26, .move (.tmp 8), I, "slices.go:147", #[], none⟩,
    ⟨some 27, .move (.tmp 7), I, "slices.go:147", #[], none⟩,
    ⟨some 28, .binOp .add I (.tmp 26) (.tmp 27) I, I, "slices.go:147", #[⟨0, .data⟩, ⟨1, .data⟩], none⟩,
    ⟨some 29, .move (.tmp 0), T, "slices.go:147", #[], none⟩,
    ⟨some 30, .call ⟨.builtin .cap, #[(.tmp 29)], #[T]⟩, I, "slices.go:147", #[⟨3, .data⟩], none⟩,
    ⟨some 31, .binOp .gtr I (.tmp 28) (.tmp 30) I, B, "slices.go:147", #[⟨2, .data⟩, ⟨4, .data⟩], none⟩] false)
  (.cond (.tmp 31)
   (.seq (.region 9 #[
     ⟨some 32, .move (.tmp 0), T, "slices.go:152", #[], none⟩,
     ⟨some 33, .move (.tmp 1), I, "slices.go:152", #[], none⟩,
     ⟨some 34, .slice T (.tmp 32) none (some (.tmp 33)) none, T, "slices.go:152", #[⟨0, .data⟩, ⟨1, .data⟩], none⟩,
     ⟨some 35, .move (.tmp 8), I, "slices.go:152", #[], none⟩,
     ⟨some 36, .move (.tmp 7), I, "slices.go:152", #[], none⟩,
     ⟨some 37, .binOp .add I (.tmp 35) (.tmp 36) I, I, "slices.go:152", #[⟨3, .data⟩, ⟨4, .data⟩], none⟩,
     ⟨some 38, .move (.tmp 1), I, "slices.go:152", #[], none⟩,
     ⟨some 39, .binOp .sub I (.tmp 37) (.tmp 38) I, I, "slices.go:152", #[⟨5, .data⟩, ⟨6, .data⟩], none⟩,
     ⟨some 40, .call ⟨.builtin .append, #[(.tmp 34), (.tmp 39)], #[T, I]⟩, T, "slices.go:152", #[⟨2, .data⟩, ⟨7, .data⟩], none⟩,
     ⟨some 9, .assign (.tmp 40), T, "slices.go:152", #[⟨8, .data⟩, ⟨8, .chain⟩, ⟨0, .phase⟩, ⟨1, .phase⟩, ⟨2, .phase⟩, ⟨3, .phase⟩, ⟨4, .phase⟩, ⟨5, .phase⟩, ⟨6, .phase⟩, ⟨7, .phase⟩, ⟨8, .phase⟩], none⟩] false)
   (.seq (.region 10 #[
     ⟨some 41, .move (.tmp 9), T, "slices.go:153", #[], none⟩,
     ⟨some 42, .move (.tmp 1), I, "slices.go:153", #[], none⟩,
     ⟨some 43, .slice T (.tmp 41) (some (.tmp 42)) none none, T, "slices.go:153", #[⟨0, .data⟩, ⟨1, .data⟩], none⟩,
     ⟨some 44, .move (.tmp 2), T, "slices.go:153", #[], none⟩,
     ⟨some 45, .call ⟨.builtin .copy, #[(.tmp 43), (.tmp 44)], #[T, T]⟩, I, "slices.go:153", #[⟨2, .data⟩, ⟨3, .data⟩], none⟩] false)
   (.seq (.region 11 #[
     ⟨some 46, .move (.tmp 9), T, "slices.go:154", #[], none⟩,
     ⟨some 47, .move (.tmp 1), I, "slices.go:154", #[], none⟩,
     ⟨some 48, .move (.tmp 7), I, "slices.go:154", #[], none⟩,
     ⟨some 49, .binOp .add I (.tmp 47) (.tmp 48) I, I, "slices.go:154", #[⟨1, .data⟩, ⟨2, .data⟩], none⟩,
     ⟨some 50, .slice T (.tmp 46) (some (.tmp 49)) none none, T, "slices.go:154", #[⟨0, .data⟩, ⟨3, .data⟩], none⟩,
     ⟨some 51, .move (.tmp 0), T, "slices.go:154", #[], none⟩,
     ⟨some 52, .move (.tmp 1), I, "slices.go:154", #[], none⟩,
     ⟨some 53, .slice T (.tmp 51) (some (.tmp 52)) none none, T, "slices.go:154", #[⟨5, .data⟩, ⟨6, .data⟩], none⟩,
     ⟨some 54, .call ⟨.builtin .copy, #[(.tmp 50), (.tmp 53)], #[T, T]⟩, I, "slices.go:154", #[⟨4, .data⟩, ⟨7, .data⟩], none⟩] true)
   (.seq (.region 12 #[
     ⟨some 55, .move (.tmp 9), T, "slices.go:155", #[], none⟩,
     ⟨some 6, .assign (.tmp 55), T, "slices.go:155", #[⟨0, .data⟩, ⟨0, .phase⟩], none⟩] false)
   .ret))))
   .skip))
  (.seq (.region 13 #[
    ⟨some 56, .move (.tmp 0), T, "slices.go:157", #[], none⟩,
    ⟨some 57, .move (.tmp 8), I, "slices.go:157", #[], none⟩,
    ⟨some 58, .move (.tmp 7), I, "slices.go:157", #[], none⟩,
    ⟨some 59, .binOp .add I (.tmp 57) (.tmp 58) I, I, "slices.go:157", #[⟨1, .data⟩, ⟨2, .data⟩], none⟩,
    ⟨some 60, .slice T (.tmp 56) none (some (.tmp 59)) none, T, "slices.go:157", #[⟨0, .data⟩, ⟨3, .data⟩], none⟩,
    ⟨some 0, .assign (.tmp 60), T, "slices.go:157", #[⟨4, .data⟩, ⟨0, .phase⟩, ⟨1, .phase⟩, ⟨2, .phase⟩, ⟨3, .phase⟩, ⟨4, .phase⟩], none⟩] false)
  (.seq (.seq (.region 14 #[
    ⟨some 61, .move (.tmp 2), T, "slices.go:173", #[], none⟩,
    ⟨some 62, .move (.tmp 0), T, "slices.go:173", #[], none⟩,
    ⟨some 63, .move (.tmp 1), I, "slices.go:173", #[], none⟩,
    ⟨some 64, .move (.tmp 7), I, "slices.go:173", #[], none⟩,
    ⟨some 65, .binOp .add I (.tmp 63) (.tmp 64) I, I, "slices.go:173", #[⟨2, .data⟩, ⟨3, .data⟩], none⟩,
    ⟨some 66, .slice T (.tmp 62) (some (.tmp 65)) none none, T, "slices.go:173", #[⟨1, .data⟩, ⟨4, .data⟩], none⟩,
    ⟨some 67, .call ⟨.value (.func fO), #[(.tmp 61), (.tmp 66)], #[T, T]⟩, B, "slices.go:173", #[⟨0, .data⟩, ⟨5, .data⟩], none⟩,
    ⟨some 68, .unOp .not B (.tmp 67), B, "slices.go:173", #[⟨6, .data⟩], none⟩] false)
  (.cond (.tmp 68)
   (.seq (.region 15 #[
     ⟨some 69, .move (.tmp 0), T, "slices.go:178", #[], none⟩,
     ⟨some 70, .move (.tmp 1), I, "slices.go:178", #[], none⟩,
     ⟨some 71, .move (.tmp 7), I, "slices.go:178", #[], none⟩,
     ⟨some 72, .binOp .add I (.tmp 70) (.tmp 71) I, I, "slices.go:178", #[⟨1, .data⟩, ⟨2, .data⟩], none⟩,
     ⟨some 73, .slice T (.tmp 69) (some (.tmp 72)) none none, T, "slices.go:178", #[⟨0, .data⟩, ⟨3, .data⟩], none⟩,
     ⟨some 74, .move (.tmp 0), T, "slices.go:178", #[], none⟩,
     ⟨some 75, .move (.tmp 1), I, "slices.go:178", #[], none⟩,
     ⟨some 76, .slice T (.tmp 74) (some (.tmp 75)) none none, T, "slices.go:178", #[⟨5, .data⟩, ⟨6, .data⟩], none⟩,
     ⟨some 77, .call ⟨.builtin .copy, #[(.tmp 73), (.tmp 76)], #[T, T]⟩, I, "slices.go:178", #[⟨4, .data⟩, ⟨7, .data⟩], none⟩] true)
   (.seq (.region 16 #[
     ⟨some 78, .move (.tmp 0), T, "slices.go:186", #[], none⟩,
     ⟨some 79, .move (.tmp 1), I, "slices.go:186", #[], none⟩,
     ⟨some 80, .slice T (.tmp 78) (some (.tmp 79)) none none, T, "slices.go:186", #[⟨0, .data⟩, ⟨1, .data⟩], none⟩,
     ⟨some 81, .move (.tmp 2), T, "slices.go:186", #[], none⟩,
     ⟨some 82, .call ⟨.builtin .copy, #[(.tmp 80), (.tmp 81)], #[T, T]⟩, I, "slices.go:186", #[⟨2, .data⟩, ⟨3, .data⟩], none⟩] false)
   (.seq (.region 17 #[
     ⟨some 83, .move (.tmp 0), T, "slices.go:193", #[], none⟩,
     ⟨some 6, .assign (.tmp 83), T, "slices.go:193", #[⟨0, .data⟩, ⟨0, .phase⟩], none⟩] false)
   .ret)))
   .skip))
  (.seq (.region 18 #[
    ⟨some 84, .move (.tmp 0), T, "slices.go:200", #[], none⟩,
    ⟨some 85, .move (.tmp 8), I, "slices.go:200", #[], none⟩,
    ⟨some 86, .slice T (.tmp 84) (some (.tmp 85)) none none, T, "slices.go:200", #[⟨0, .data⟩, ⟨1, .data⟩], none⟩,
    ⟨some 87, .move (.tmp 2), T, "slices.go:200", #[], none⟩,
    ⟨some 88, .call ⟨.builtin .copy, #[(.tmp 86), (.tmp 87)], #[T, T]⟩, I, "slices.go:200", #[⟨2, .data⟩, ⟨3, .data⟩], none⟩] false)
  (.seq (.region 19 #[
    ⟨some 89, .move (.tmp 0), T, "slices.go:207", #[], none⟩,
    ⟨some 90, .move (.tmp 1), I, "slices.go:207", #[], none⟩,
    ⟨some 91, .slice T (.tmp 89) (some (.tmp 90)) none none, T, "slices.go:207", #[⟨0, .data⟩, ⟨1, .data⟩], none⟩,
    ⟨some 92, .move (.tmp 7), I, "slices.go:207", #[], none⟩,
    ⟨some 93, .call ⟨.value (.func fR), #[(.tmp 91), (.tmp 92)], #[T, I]⟩, 0, "slices.go:207", #[⟨2, .data⟩, ⟨3, .data⟩], none⟩] false)
  (.seq (.region 20 #[
    ⟨some 94, .move (.tmp 0), T, "slices.go:214", #[], none⟩,
    ⟨some 6, .assign (.tmp 94), T, "slices.go:214", #[⟨0, .data⟩, ⟨0, .phase⟩], none⟩] false)
  .ret))))))))))))
structure ZaM (P:Program) (T B I e:TypeId) (inf:TypeInfo) (z:Value) (k:Nat):Prop where
 mixed:P.follows .mixedOrders=true
 tT:P.underlying T=some (.slice e)
 tI:P.underlying I=some (.int .i64)
 tB:P.underlying B=some .bool
 ie:P.info? e=some inf
 zero:inf.zero=some z
 zsz:z.cells.size=k
 sz:inf.size=k
 pos:0 < k
 nm:Zg P e=false
structure ZaQ (P:Program) (T B I:TypeId) (fO:FuncId) (e:TypeId) (inf:TypeInfo) (z:Value) (k:Nat):Prop extends ZaM P T B I e inf z k where
 fO:∀ args w,(callFunc fO args).run P w=((Extern.SlicesOverlaps.overlaps #[T,T] #[B] args).run P w).andThen fun v w'=>.ok (.value v) w'
theorem Zgb {w:World} {b:Nat} {cur:Array Value} {e:TypeId} {fr:Nat×Nat} (h:w.heap[b]? = some (.cells cur e fr)):w.shape? b=some (e,cur.size):=by simp [World.shape?,h]
theorem ZeX {w:World} {b o:Nat} {cur:Array Value} {e:TypeId} (h:w.heap[b]? = some (.cells cur e (0,0))):w.frozen? ⟨b,o,none⟩=false:=by simp [World.frozen?,h]
def J8 (U:List Value) (k n m i:Nat):List Value:=U.take ((i+m)*k)++(U.drop (i*k)).take ((n-i)*k)++U.drop ((i+m)*k+(n-i)*k)
def ZcC (U vs:List Value) (k n m i:Nat):List Value:=
 (J8 U k n m i).take (i*k)++vs++(J8 U k n m i).drop (i*k+m*k)
theorem Va {w:World} {b:Nat} {cur:Array Value} {e:TypeId} {fr:Nat×Nat} (h:w.heap[b]? = some (.cells cur e fr)) {l:List Value} {q:Nat} (hl:∀ j v,l[j]? = some v→cur[q+j]? = some v) :
  ∀ j v,l[j]? = some v→w.cell? ((⟨b,q,none⟩:Addr).add j)=some v:=fun j v hj=>by
 rw [Jq,Zr h]
 exact hl j v hj
theorem J3 {w:World} {b:Nat} {cur cur':Array Value} {t:TypeId} (h:w.heap[b]? = some (.cells cur t (0,0))):(w.setRow b cur').heap[b]? = some (.cells cur' t (0,0)):=setRow_heap w b cur cur' t (0,0) h
set_option maxHeartbeats 4000000 in
set_option maxRecDepth 100000 in
theorem Zjq {T B I:TypeId} {fO fR:FuncId} {e:TypeId} {inf:TypeInfo} {z:Value} {k:Nat} (L:ZaQ P T B I fO e inf z k) {f:FuncId} {fn:Func} (hf:P.funcs[f]? = some fn) (hb:fn.body=some (insCode T B I fO fR)) (hnt:fn.ntmps=95) (hrs:fn.results = #[.tmp 6])
  (b n c i vb m vc:Nat) (cur vcur:Array Value) (w:World) (hi:i < n) (hm:0 < m) (hroom:n+m≤c) (hc63:c≤9223372036854775807) (hvb:vb≠b)
  (hg:w.heap[b]? = some (.cells cur e (0,0))) (hcs:cur.size=c*k) (hvg:w.heap[vb]? = some (.cells vcur e (0,0))) (hvs:vcur.size=vc*k) (hmv:m≤vc)
  (h1c:∀ v∈cur.toList.take (n*k),v.oneCell'=true) (h1v:∀ v∈vcur.toList.take (m*k),v.oneCell'=true) :
  Calls P f #[.slice (some ⟨b,0,none⟩) n c,.int .i64 i,.slice (some ⟨vb,0,none⟩) m vc] w fun e' w'=>
   e' = .returned (.slice (some ⟨b,0,none⟩) (n+m) c)∧w'=(w.drew.setRow b (J8 cur.toList k n m i).toArray).setRow b (ZcC cur.toList (vcur.toList.take (m*k)) k n m i).toArray:=by
 have mixed:=L.mixed
 have t0:=L.tT;have t1:=L.tI;have t2:=L.tB
 have u0:=run_underlying L.tT;have u1:=run_underlying L.tI;have u2:=run_underlying L.tB
 have zsE:∀ w,(Go.sizeOf e).run P w = .ok k w:=fun w=>by rw [Zq L.ie];rw [Zx L.ie,L.sz]
 have hk:=L.pos
 have hz1:¬ ((m:Int)=0):=by omega
 have hz2:¬ ((i:Int)=(n:Int)):=by omega
 have hn0:(n+m)*k≤c*k:=Nat.mul_le_mul_right _ hroom
 have hn1:(n+m)*k=n*k+m*k:=Nat.add_mul _ _ _
 have hn2:(i+m)*k=i*k+m*k:=Nat.add_mul _ _ _
 have hn3:(n-i)*k=n*k-i*k:=Nat.sub_mul _ _ _
 have hn4:i*k≤n*k:=Nat.mul_le_mul_right _ (by omega)
 have hn5:0 < c*k:=Nat.mul_pos (by omega) hk
 have hn6:m*k≤vc*k:=Nat.mul_le_mul_right _ hmv
 have hov:∀ lb cb W,W.heap[vb]? = w.heap[vb]?→W.heap[b]? = w.heap[b]?→(callFunc fO #[.slice (some ⟨vb,0,none⟩) m vc,.slice (some ⟨b,(i+m)*k,none⟩) lb cb]).run P W = .ok (.value (.bool false)) W:=fun lb cb W h1 h2=>by
  rw [L.fO,Lib.run_overlaps_apart W T B e L.tT k zsE ⟨vb,0,none⟩ ⟨b,(i+m)*k,none⟩ m vc lb cb hvb e e vcur.size cur.size (Zgb (h1.trans hvg)) (Zgb (h2.trans hg)) (by omega) (ZeX (h1.trans hvg)) (ZeX (h1.trans hvg))]
  rfl
 have hcl:cur.toList.length=c*k:=by simpa using hcs
 have hin:i≤n:=by omega
 have hcp1:∀ ty dc sc,(Builtin.copy_ #[T,T] ty #[.slice (some ⟨b,(i+m)*k,none⟩) (n+m-(i+m)) dc,.slice (some ⟨b,i*k,none⟩) (n+m-i) sc]).run P w.drew = .ok (goInt ((n-i:Nat):Int)) (w.drew.setRow b (J8 cur.toList k n m i).toArray):=fun ty dc sc=>by
  have hlen:((cur.toList.drop (i*k)).take ((n-i)*k)).length=(n-i)*k:=by rw [List.length_take,List.length_drop,hcl];omega
  have:=Yz (P:=P) w.drew T T ty e inf b ((i+m)*k) (n+m-(i+m)) dc ⟨b,i*k,none⟩ (n+m-i) sc (n-i) cur e ((cur.toList.drop (i*k)).take ((n-i)*k)) L.tT L.ie hg (by simp only [Nat.min_def];split<;>omega) (by rw [hlen,L.sz])
   (Va (w:=w.drew) hg fun j v hj=>by
    rw [List.getElem?_take] at hj
    split at hj
    ·rw [List.getElem?_drop] at hj;simpa using hj
    ·cases hj)
   (by rw [hlen,hcs];omega) (fun v hv=>h1c v (by
    rw [hn3,← List.drop_take] at hv
    exact List.mem_of_mem_drop hv))
  rw [hlen] at this
  exact this
 have hcp2:∀ W,W.heap[b]? = some (.cells (J8 cur.toList k n m i).toArray e (0,0))→W.heap[vb]? = w.heap[vb]?→∀ ty dc,(Builtin.copy_ #[T,T] ty #[.slice (some ⟨b,i*k,none⟩) (n+m-i) dc,.slice (some ⟨vb,0,none⟩) m vc]).run P W = .ok (goInt m) (W.setRow b (ZcC cur.toList (vcur.toList.take (m*k)) k n m i).toArray):=fun W h1 h2 ty dc=>by
  have hvl:vcur.toList.length=vc*k:=by simpa using hvs
  have hlen:(vcur.toList.take (m*k)).length=m*k:=by rw [List.length_take,hvl];omega
  have:=Yz (P:=P) W T T ty e inf b (i*k) (n+m-i) dc ⟨vb,0,none⟩ m vc m (J8 cur.toList k n m i).toArray e (vcur.toList.take (m*k)) L.tT L.ie h1 (by simp only [Nat.min_def];split<;>omega) (by rw [hlen,L.sz])
   (Va (w:=W) (h2.trans hvg) fun j v hj=>by
    rw [List.getElem?_take] at hj
    split at hj
    ·simpa using hj
    ·cases hj)
   (by
    have:(J8 cur.toList k n m i).length=c*k:=by simp only [J8,List.length_append,List.length_take,List.length_drop,hcl];omega
    rw [hlen,List.size_toArray,this];omega) h1v
  rw [hlen] at this
  exact this
 have hw1:IntKind.i64.wrap ((i:Int)+(m:Int))=(i:Int)+(m:Int):=by rw [IntKind.wrap_i64];omega
 have hw2:IntKind.i64.wrap ((n:Int)+(m:Int))=(n:Int)+(m:Int):=by rw [IntKind.wrap_i64];omega
 have hb1:(0:Int)≤(i:Int)+(m:Int):=by omega
 have htn:((i:Int)+(m:Int)).toNat=i+m:=by omega
 have hb2:¬ (c=i+m):=by omega
 have hb3:(i:Int)≤(n:Int)+(m:Int):=by omega
 have hb4:¬ (c=i):=by omega
 have hcp2w:=fun ty dc=>hcp2 (w.drew.setRow b (J8 cur.toList k n m i).toArray) (J3 (w:=w.drew) hg) (by simp [World.setRow,Array.getElem?_modify,Ne.symm hvb];rfl) ty dc
 have hovw:=fun lb cb=>hov lb cb w rfl rfl
 rw [hn2] at hovw hcp1
 clear hcp2 hov hg hvg hcs hcl hvs h1c h1v
 refine calls_of_wp hf hb ?_
 rw [hnt]
 simp only [List.size_toArray,List.length_cons,List.length_nil,Nat.reduceAdd,Nat.reduceSub,Array.replicate_succ,Array.replicate_zero,List.push_toArray,List.append_toArray,List.nil_append,List.cons_append]
 unfold insCode
 go_wp2_with (simp only [hovw])
 go_region_law_o (refine Vr rfl _ _ T T rfl _ _ (by simp [Act.eval,Act.put]) (by simp [Act.eval,Act.put]) (hcp1 _ _ _) ?_)
 go_wp2_with (at_builtin;refine KH _ rfl _ _ T T rfl _ _ rfl rfl (hcp2w _ _) ?_)
 refine bodyPost_ret (results_tmp hrs _ _ _) rfl ?_
 exact ⟨rfl,rfl⟩
set_option maxHeartbeats 4000000 in
set_option maxRecDepth 100000 in
theorem Zmq {T B I:TypeId} {fO fR:FuncId} {e:TypeId} {inf:TypeInfo} {z:Value} {k:Nat} (L:ZaQ P T B I fO e inf z k) {f:FuncId} {fn:Func} (hf:P.funcs[f]? = some fn) (hb:fn.body=some (insCode T B I fO fR)) (hnt:fn.ntmps=95) (hrs:fn.results = #[.tmp 6])
  (base:Option Addr) (n c:Nat) (vb:Option Addr) (m vc:Nat) (w w1:World) (v1:Value) (hm:0 < m) (hnc:n≤c)
  (hr:∀ ty,(Builtin.append_ #[T,T] ty #[.slice base n c,.slice vb m vc]).run P w = .ok v1 w1) :
  Calls P f #[.slice base n c,.int .i64 n,.slice vb m vc] w fun e' w'=>e' = .returned v1∧w'=w1:=by
 have mixed:=L.mixed
 have t0:=L.tT;have t1:=L.tI;have t2:=L.tB
 have u0:=run_underlying L.tT;have u1:=run_underlying L.tI;have u2:=run_underlying L.tB
 have zsE:∀ w,(Go.sizeOf e).run P w = .ok k w:=fun w=>by rw [Zq L.ie];rw [Zx L.ie,L.sz]
 have hz1:¬ ((m:Int)=0):=by omega
 refine calls_of_wp hf hb ?_
 rw [hnt]
 simp only [List.size_toArray,List.length_cons,List.length_nil,Nat.reduceAdd,Nat.reduceSub,Array.replicate_succ,Array.replicate_zero,List.push_toArray,List.append_toArray,List.nil_append,List.cons_append]
 unfold insCode
 cases base with
 | none =>
  go_wp2_with (at_builtin;refine Lib.wpList_append_run _ rfl _ _ _ _ rfl _ _ rfl rfl _ _ (hr _) ?_)
  refine bodyPost_ret (results_tmp hrs _ _ _) rfl ?_
  exact ⟨rfl,rfl⟩
 | some a =>
  obtain ⟨ab,ao,asp⟩:=a
  go_wp2_with (at_builtin;refine Lib.wpList_append_run _ rfl _ _ _ _ rfl _ _ rfl rfl _ _ (hr _) ?_)
  all_goals
   refine bodyPost_ret (results_tmp hrs _ _ _) rfl ?_
   exact ⟨rfl,rfl⟩
def K4 (U:List Value) (zc:Array Value) (k n m i G:Nat):Array Value:=(U.take (i*k)).toArray++Builtin.zeroCells zc (n+m-i)++Builtin.zeroCells zc (G-(n+m))
def Kq (R vs:List Value) (k m i:Nat):List Value:=R.take (i*k)++vs++R.drop (i*k+m*k)
def Zay (R U:List Value) (k n m i:Nat):List Value:=R.take (i*k+m*k)++(U.drop (i*k)).take ((n-i)*k)++R.drop (i*k+m*k+(n-i)*k)
theorem WV {U:List Value} {zc:Array Value} {k n m i G:Nat} (hz:zc.size=k) (hi:i≤n) (hG:n+m≤G) (hU:i*k≤U.length):(K4 U zc k n m i G).size=G*k:=by
 simp only [K4,Array.size_append,List.size_toArray,List.length_take,size_zeroCells,hz]
 rw [Nat.min_eq_left hU,← Nat.add_mul,← Nat.add_mul]
 congr 1
 omega
set_option maxHeartbeats 4000000 in
set_option maxRecDepth 100000 in
theorem ZkT {T B I:TypeId} {fO fR:FuncId} {e:TypeId} {inf:TypeInfo} {z:Value} {k:Nat} (L:ZaQ P T B I fO e inf z k) {f:FuncId} {fn:Func} (hf:P.funcs[f]? = some fn) (hb:fn.body=some (insCode T B I fO fR)) (hnt:fn.ntmps=95) (hrs:fn.results = #[.tmp 6])
  (b n c i vb m vc:Nat) (cur vcur:Array Value) (w:World) (hi:i < n) (hm:0 < m) (hnc:n≤c) (hroom:c < n+m) (hbig:(n+m)*inf.bytes≤140737488355328) (h62:n+m≤4611686018427387904)
  (hg:w.heap[b]? = some (.cells cur e (0,0))) (hcs:cur.size=c*k) (hvg:w.heap[vb]? = some (.cells vcur e (0,0))) (hvs:vcur.size=vc*k) (hmv:m≤vc)
  (h1c:∀ v∈cur.toList.take (n*k),v.oneCell'=true) (h1v:∀ v∈vcur.toList.take (m*k),v.oneCell'=true) :
  Calls P f #[.slice (some ⟨b,0,none⟩) n c,.int .i64 i,.slice (some ⟨vb,0,none⟩) m vc] w fun e' w'=>
   ∃ G,n+m≤G∧G≤maxLen∧e' = .returned (.slice (some ⟨w.heap.size,0,none⟩) (n+m) G)∧
    w'=(((w.drew.alloc (.cells (K4 cur.toList z.cells k n m i G) e)).setRow w.heap.size (Kq (K4 cur.toList z.cells k n m i G).toList (vcur.toList.take (m*k)) k m i).toArray).drew).setRow w.heap.size
     (Zay (Kq (K4 cur.toList z.cells k n m i G).toList (vcur.toList.take (m*k)) k m i) cur.toList k n m i).toArray:=by
 have mixed:=L.mixed
 have t0:=L.tT;have t1:=L.tI;have t2:=L.tB
 have u0:=run_underlying L.tT;have u1:=run_underlying L.tI;have u2:=run_underlying L.tB
 have zsE:∀ w,(Go.sizeOf e).run P w = .ok k w:=fun w=>by rw [Zq L.ie];rw [Zx L.ie,L.sz]
 have hk:=L.pos
 have hz1:¬ ((m:Int)=0):=by omega
 have hz2:¬ ((i:Int)=(n:Int)):=by omega
 have hz3:(c:Int) < (n:Int)+(m:Int):=by omega
 have hn1:(n+m)*k=n*k+m*k:=Nat.add_mul _ _ _
 have hn2:(i+m)*k=i*k+m*k:=Nat.add_mul _ _ _
 have hn3:(n-i)*k=n*k-i*k:=Nat.sub_mul _ _ _
 have hn4:i*k≤n*k:=Nat.mul_le_mul_right _ (by omega)
 have hn5:n*k≤c*k:=Nat.mul_le_mul_right _ hnc
 have hn6:m*k≤vc*k:=Nat.mul_le_mul_right _ hmv
 have hcl:cur.toList.length=c*k:=by simpa using hcs
 have hvl:vcur.toList.length=vc*k:=by simpa using hvs
 have hin:i≤n:=by omega
 have hbw:b < w.heap.size:=(Array.getElem?_eq_some_iff.1 hg).1
 have hvw:vb < w.heap.size:=(Array.getElem?_eq_some_iff.1 hvg).1
 have hkk:(n:Int)+(m:Int)-(i:Int)=((n+m-i:Nat):Int):=by omega
 have hik:i+(n+m-i)=n+m:=by omega
 obtain ⟨G,hG⟩:∃ G,G=grownCap w (n+m) c e:=⟨_,rfl⟩
 have hGn:n+m≤G:=by rw [hG];exact grownCap_ge w _ _ _
 have hGm:G≤maxLen:=by rw [hG];exact grownCap_le_maxLen w (n+m) c e (by unfold maxLen;omega)
 have hG63:G≤9223372036854775807:=by unfold maxLen at hGm;omega
 have hmk:(n+m)*k≤G*k:=Nat.mul_le_mul_right _ hGn
 obtain ⟨R0,hR0⟩:∃ R0,R0=K4 cur.toList z.cells k n m i G:=⟨_,rfl⟩
 have hR0s:R0.size=G*k:=by rw [hR0];exact WV L.zsz hin hGn (by rw [hcl];omega)
 have hR0l:R0.toList.length=G*k:=by simpa using hR0s
 have hold:(Builtin.firstCells inf.size i (.slice (some ⟨b,0,none⟩) i c)).run P w.drew = .ok (cur.toList.take (i*k)).toArray w.drew:=by
  rw [L.sz]
  exact run_firstCells_some w.drew k i ⟨b,0,none⟩ i c (cur.toList.take (i*k)) (by rw [List.length_take,hcl];omega) (Va (w:=w.drew) hg fun j v hj=>by
   rw [List.getElem?_take] at hj
   split at hj
   ·simpa using hj
   ·cases hj)
 have hrz:∀ ty,(Builtin.append_ #[T,I] ty #[.slice (some ⟨b,0,none⟩) i c,.int .i64 ((n:Int)+(m:Int)-(i:Int))]).run P w =
   .ok (.slice (some ⟨w.heap.size,0,none⟩) (n+m) G) (w.drew.alloc (.cells R0 e)):=fun ty=>by
  have hb0:(n+m-i)*inf.bytes≤(n+m)*inf.bytes:=Nat.mul_le_mul_right _ (by omega)
  have h:=Lib.run_append_grow_zeros w T I ty e inf z .i64 .i64 L.tT L.tI L.ie L.zero (some ⟨b,0,none⟩) i c (cur.toList.take (i*k)) hold (n+m-i) (by omega) (by rw [L.sz];exact hk) (by omega) (by omega) (by omega) (by rw [hik];exact growslice_fits hroom hbig)
  rw [hik,← hG] at h
  rw [hkk,h,hR0]
  rfl
 obtain ⟨R1,hR1⟩:∃ R1,R1=Kq R0.toList (vcur.toList.take (m*k)) k m i:=⟨_,rfl⟩
 have hvtl:(vcur.toList.take (m*k)).length=m*k:=by rw [List.length_take,hvl];omega
 have hR1l:R1.length=G*k:=by
  rw [hR1]
  simp only [Kq,List.length_append,hvtl,List.length_take,List.length_drop,hR0l]
  omega
 have hcpA:∀ W,W.heap[w.heap.size]? = some (.cells R0 e (0,0))→W.heap[vb]? = w.heap[vb]?→∀ ty dc,(Builtin.copy_ #[T,T] ty #[.slice (some ⟨w.heap.size,i*k,none⟩) (n+m-i) dc,.slice (some ⟨vb,0,none⟩) m vc]).run P W = .ok (goInt m) (W.setRow w.heap.size R1.toArray):=fun W h1 h2 ty dc=>by
  have:=Yz (P:=P) W T T ty e inf w.heap.size (i*k) (n+m-i) dc ⟨vb,0,none⟩ m vc m R0 e (vcur.toList.take (m*k)) L.tT L.ie h1 (by simp only [Nat.min_def];split<;>omega) (by rw [hvtl,L.sz])
   (Va (w:=W) (h2.trans hvg) fun j v hj=>by
    rw [List.getElem?_take] at hj
    split at hj
    ·simpa using hj
    ·cases hj)
   (by rw [hvtl,hR0s];omega) h1v
  rw [hvtl] at this
  rw [this,hR1]
  rfl
 have hcpB:∀ W,W.heap[w.heap.size]? = some (.cells R1.toArray e (0,0))→W.heap[b]? = w.heap[b]?→∀ ty dc sc,(Builtin.copy_ #[T,T] ty #[.slice (some ⟨w.heap.size,i*k+m*k,none⟩) (n+m-(i+m)) dc,.slice (some ⟨b,i*k,none⟩) (n-i) sc]).run P W = .ok (goInt ((n-i:Nat):Int)) (W.setRow w.heap.size (Zay R1 cur.toList k n m i).toArray):=fun W h1 h2 ty dc sc=>by
  have hlen:((cur.toList.drop (i*k)).take ((n-i)*k)).length=(n-i)*k:=by rw [List.length_take,List.length_drop,hcl];omega
  have:=Yz (P:=P) W T T ty e inf w.heap.size (i*k+m*k) (n+m-(i+m)) dc ⟨b,i*k,none⟩ (n-i) sc (n-i) R1.toArray e ((cur.toList.drop (i*k)).take ((n-i)*k)) L.tT L.ie h1 (by simp only [Nat.min_def];split<;>omega) (by rw [hlen,L.sz])
   (Va (w:=W) (h2.trans hg) fun j v hj=>by
    rw [List.getElem?_take] at hj
    split at hj
    ·rw [List.getElem?_drop] at hj;simpa using hj
    ·cases hj)
   (by rw [hlen,List.size_toArray,hR1l];omega) (fun v hv=>h1c v (by
    rw [hn3,← List.drop_take] at hv
    exact List.mem_of_mem_drop hv))
  rw [hlen] at this
  exact this
 have hA0:(w.drew.alloc (.cells R0 e)).heap[w.heap.size]? = some (.cells R0 e (0,0)):=Yo w.drew R0 e
 have hAo:∀ x,x < w.heap.size→(w.drew.alloc (.cells R0 e)).heap[x]? = w.heap[x]?:=fun x hx=>heap_alloc_old w.drew _ hx
 have hcpA':=hcpA (w.alloc (.cells R0 e)).drew hA0 (hAo vb hvw)
 have hcpB':=hcpB ((w.alloc (.cells R0 e)).drew.setRow w.heap.size R1.toArray).drew (J3 hA0) (by
  have:((w.drew.alloc (.cells R0 e)).setRow w.heap.size R1.toArray).heap[b]? = (w.drew.alloc (.cells R0 e)).heap[b]?:=by simp [World.setRow,Array.getElem?_modify,Nat.ne_of_gt hbw]
  exact this.trans (hAo b hbw))
 have hw1:IntKind.i64.wrap ((i:Int)+(m:Int))=(i:Int)+(m:Int):=by rw [IntKind.wrap_i64];omega
 have hw2:IntKind.i64.wrap ((n:Int)+(m:Int))=(n:Int)+(m:Int):=by rw [IntKind.wrap_i64];omega
 have hw3:IntKind.i64.wrap ((n:Int)+(m:Int)-(i:Int))=(n:Int)+(m:Int)-(i:Int):=by rw [IntKind.wrap_i64];omega
 have hb1:(0:Int)≤(i:Int)+(m:Int):=by omega
 have htn:((i:Int)+(m:Int)).toNat=i+m:=by omega
 have hb3:(i:Int)≤(n:Int):=by omega
 have hb4:(i:Int)≤(n:Int)+(m:Int):=by omega
 have hGi:¬ (G=i):=by omega
 have hGim:¬ (G=i+m):=by omega
 have hci:¬ (c=i):=by omega
 refine Calls.mono ?_ (fun e' w' h=>⟨G,hGn,hGm,h⟩)
 rw [← hR0,← hR1]
 clear hcpA hcpB hold hg hvg hcs hcl hvs h1c h1v hR0 hR1 hG hvl hR0s hR0l hR1l hvtl hkk hik
 refine calls_of_wp hf hb ?_
 rw [hnt]
 simp only [List.size_toArray,List.length_cons,List.length_nil,Nat.reduceAdd,Nat.reduceSub,Array.replicate_succ,Array.replicate_zero,List.push_toArray,List.append_toArray,List.nil_append,List.cons_append]
 unfold insCode
 go_wp2_with (first
  | (at_builtin; refine Lib.wpList_append_run _ rfl _ _ _ _ rfl _ _ rfl rfl _ _ (hrz _) ?_)
  | (at_builtin; refine KH _ rfl _ _ T T rfl _ _ rfl rfl (hcpA' _ _) ?_))
 go_region_law_o (refine Vr rfl _ _ T T rfl _ _ (by simp [Act.eval,Act.put]) (by simp [Act.eval,Act.put]) (hcpB' _ _ _) ?_)
 go_wp2
 refine bodyPost_ret (results_tmp hrs _ _ _) rfl ?_
 exact ⟨rfl,rfl⟩
def delCode (T B I U:TypeId):Code:=
  (.seq (.region 0 #[
    ⟨some 6, .assign (.const (.slice none 0 0)), T, "slices.go:224", #[], none⟩] false)
  (.seq (.region 1 #[
    ⟨some 8, .move (.tmp 0), T, "slices.go:225", #[], none⟩,
    ⟨some 9, .move (.tmp 1), I, "slices.go:225", #[], none⟩,
    ⟨some 10, .move (.tmp 2), I, "slices.go:225", #[], none⟩,
    ⟨some 11, .move (.tmp 0), T, "slices.go:225", #[], none⟩,
    ⟨some 12, .call ⟨.builtin .len, #[(.tmp 11)], #[T]⟩, I, "slices.go:225", #[⟨3, .data⟩], none⟩,
    ⟨some 13, .slice T (.tmp 8) (some (.tmp 9)) (some (.tmp 10)) (some (.tmp 12)), T, "slices.go:225", #[⟨0, .data⟩, ⟨1, .data⟩, ⟨2, .data⟩, ⟨4, .data⟩], none⟩] false)
  (.seq (.seq (.region 2 #[
    ⟨some 14, .move (.tmp 1), I, "slices.go:227", #[], none⟩,
    ⟨some 15, .move (.tmp 2), I, "slices.go:227", #[], none⟩,
    ⟨some 16, .binOp .eql I (.tmp 14) (.tmp 15) I, B, "slices.go:227", #[⟨0, .data⟩, ⟨1, .data⟩], none⟩] false)
  (.cond (.tmp 16)
   (.seq (.region 3 #[
     ⟨some 17, .move (.tmp 0), T, "slices.go:228", #[], none⟩,
     ⟨some 6, .assign (.tmp 17), T, "slices.go:228", #[⟨0, .data⟩, ⟨0, .phase⟩], none⟩] false)
   .ret)
   .skip))
  (.seq (.region 4 #[
    ⟨some 18, .move (.tmp 0), T, "slices.go:231", #[], none⟩,
    ⟨some 19, .call ⟨.builtin .len, #[(.tmp 18)], #[T]⟩, I, "slices.go:231", #[⟨0, .data⟩], none⟩,
    ⟨some 7, .assign (.tmp 19), I, "slices.go:231", #[⟨1, .data⟩, ⟨0, .phase⟩, ⟨1, .phase⟩], none⟩] false)
  (.seq (.region 5 #[
    ⟨some 20, .move (.tmp 0), T, "slices.go:232", #[], none⟩,
    ⟨some 21, .move (.tmp 1), I, "slices.go:232", #[], none⟩,
    ⟨some 22, .slice T (.tmp 20) none (some (.tmp 21)) none, T, "slices.go:232", #[⟨0, .data⟩, ⟨1, .data⟩], none⟩,
    ⟨some 23, .move (.tmp 0), T, "slices.go:232", #[], none⟩,
    ⟨some 24, .move (.tmp 2), I, "slices.go:232", #[], none⟩,
    ⟨some 25, .slice T (.tmp 23) (some (.tmp 24)) none none, T, "slices.go:232", #[⟨3, .data⟩, ⟨4, .data⟩], none⟩,
    ⟨some 26, .call ⟨.builtin .append, #[(.tmp 22), (.tmp 25)], #[T, T]⟩, T, "slices.go:232", #[⟨2, .data⟩, ⟨5, .data⟩], none⟩,
    ⟨some 0, .assign (.tmp 26), T, "slices.go:232", #[⟨6, .data⟩, ⟨6, .chain⟩, ⟨0, .phase⟩, ⟨1, .phase⟩, ⟨2, .phase⟩, ⟨3, .phase⟩, ⟨4, .phase⟩, ⟨5, .phase⟩, ⟨6, .phase⟩], none⟩] true)
  (.seq (.region 6 #[
    ⟨some 27, .move (.tmp 0), T, "slices.go:233", #[], none⟩,
    ⟨some 28, .move (.tmp 0), T, "slices.go:233", #[], none⟩,
    ⟨some 29, .call ⟨.builtin .len, #[(.tmp 28)], #[T]⟩, I, "slices.go:233", #[⟨1, .data⟩], none⟩,
    ⟨some 30, .move (.tmp 7), I, "slices.go:233", #[], none⟩,
    ⟨some 31, .slice T (.tmp 27) (some (.tmp 29)) (some (.tmp 30)) none, T, "slices.go:233", #[⟨0, .data⟩, ⟨2, .data⟩, ⟨3, .data⟩], none⟩,
    ⟨none, .call ⟨.builtin .clear, #[(.tmp 31)], #[T]⟩, U, "slices.go:233", #[⟨4, .data⟩], none⟩] false)
  (.seq (.region 7 #[
    ⟨some 32, .move (.tmp 0), T, "slices.go:234", #[], none⟩,
    ⟨some 6, .assign (.tmp 32), T, "slices.go:234", #[⟨0, .data⟩, ⟨0, .phase⟩], none⟩] false)
  .ret)))))))
theorem Kf (w:World) {ops:Array Oper} {rest:List Oper} {o:Oper} {a:Act} {Q:Exit→Act→World→Prop} (hgd:o.guard=none) (d:Operand) (t:TypeId)
  (ho:o.op = .call { callee:=.builtin .clear,args:=#[d],argTypes:=#[t] }) (v:Value) (hd:a.eval d=v) {v':Value} {w':World}
  (hr:(Builtin.clear_ #[t] o.type #[v]).run P w = .ok v' w') (h:wpList P ops Q rest (a.put o.dst v') w'):wpList P ops Q (o::rest) a w:=
 wpList_plain hgd fun _ hK=>by
  unfold Oper.wp execOp
  simp only [ho,resolve,invoke,builtin,Sem.run_bind,Sem.run_pure,Result.andThen_ok,List.map_toArray,List.map_cons,List.map_nil,hd,hr]
  exact hK _ _ h
theorem KC {ops:Array Oper} {o:Oper} {a:Act} {w:World} {K:Act→World→Prop} {Q:Exit→Act→World→Prop} {E:Prop}
  (hg:o.guard=none) (d x:Operand) (dT sT:TypeId) (hop:o.op=Op.call { callee:=Callee.builtin Builtin.append,args:=#[d,x],argTypes:=#[dT,sT] })
  (v u:Value) (hd:a.eval d=v) (hx:a.eval x=u) {v':Value} {w':World} (hr:(Builtin.append_ #[dT,sT] o.type #[v,u]).run P w = .ok v' w') (hK:K (a.put o.dst v') w') :
  if Region.wanted o (yielded ops a.tmps)=true then Oper.wp P o a w K Q else E:=by
 have hw:Region.wanted o (yielded ops a.tmps)=true:=by simp [Region.wanted,hg]
 rw [if_pos hw]
 unfold Oper.wp
 simp [execOp,hop,resolve,invoke,builtin,hd,hx,hr,Result.andThen]
 exact hK
def JS (U:List Value) (k n i j:Nat):List Value:=U.take (i*k)++(U.drop (j*k)).take ((n-j)*k)++U.drop (i*k+(n-j)*k)
def ZbA (R:List Value) (zc:List Value) (k n q:Nat):List Value:=R.take (q*k)++(List.replicate (n-q) zc).flatten++R.drop (q*k+(n-q)*k)
set_option maxHeartbeats 4000000 in
set_option maxRecDepth 100000 in
theorem Zl7 {T B I U e:TypeId} {inf:TypeInfo} {z:Value} {k:Nat} (L:ZaM P T B I e inf z k) {f:FuncId} {fn:Func} (hf:P.funcs[f]? = some fn) (hb:fn.body=some (delCode T B I U)) (hnt:fn.ntmps=33) (hrs:fn.results = #[.tmp 6])
  (b n c i j:Nat) (cur:Array Value) (w:World) (hij:i < j) (hjn:j≤n) (hnc:n≤c) (hc63:c≤9223372036854775807) (hg:w.heap[b]? = some (.cells cur e (0,0))) (hcs:cur.size=c*k)
  (h1c:∀ v∈cur.toList.take (n*k),v.oneCell'=true) (h1z:∀ v∈z.cells.toList,v.oneCell'=true) :
  Calls P f #[.slice (some ⟨b,0,none⟩) n c,.int .i64 i,.int .i64 j] w fun e' w'=>
   e' = .returned (.slice (some ⟨b,0,none⟩) (i+(n-j)) c)∧w'=(w.drew.setRow b (JS cur.toList k n i j).toArray).setRow b (ZbA (JS cur.toList k n i j) z.cells.toList k n (i+(n-j))).toArray:=by
 have mixed:=L.mixed
 have t0:=L.tT;have t1:=L.tI;have t2:=L.tB
 have u0:=run_underlying L.tT;have u1:=run_underlying L.tI;have u2:=run_underlying L.tB
 have zsE:∀ w,(Go.sizeOf e).run P w = .ok k w:=fun w=>by rw [Zq L.ie];rw [Zx L.ie,L.sz]
 have hk:=L.pos
 have hn3:(n-j)*k=n*k-j*k:=Nat.sub_mul _ _ _
 have hn4:i*k≤j*k:=Nat.mul_le_mul_right _ (by omega)
 have hn5:n*k≤c*k:=Nat.mul_le_mul_right _ hnc
 have hn6:j*k≤n*k:=Nat.mul_le_mul_right _ hjn
 have hn7:(i+(n-j))*k=i*k+(n-j)*k:=Nat.add_mul _ _ _
 have hn8:(n-(i+(n-j)))*k=n*k-(i+(n-j))*k:=Nat.sub_mul _ _ _
 have hcl:cur.toList.length=c*k:=by simpa using hcs
 have hR1l:(JS cur.toList k n i j).length=c*k:=by simp only [JS,List.length_append,List.length_take,List.length_drop,hcl];omega
 have hlen:((cur.toList.drop (j*k)).take ((n-j)*k)).length=(n-j)*k:=by rw [List.length_take,List.length_drop,hcl];omega
 have h1n:∀ v∈(cur.toList.drop (j*k)).take ((n-j)*k),v.oneCell'=true:=fun v hv=>h1c v (by
    rw [hn3,← List.drop_take] at hv
    exact List.mem_of_mem_drop hv)
 have hap:∀ (A:Addr) sc ty,(n-j≠0→A=⟨b,j*k,none⟩)→(Builtin.append_ #[T,T] ty #[.slice (some ⟨b,0,none⟩) i c,.slice (some A) (n-j) sc]).run P w.drew = .ok (.slice (some ⟨b,0,none⟩) (i+(n-j)) c) (w.drew.setRow b (JS cur.toList k n i j).toArray):=fun A sc ty hA=>by
  have:=run_append_room (P:=P) w.drew T ty e inf L.tT L.ie b i c cur hg A (n-j) sc ((cur.toList.drop (j*k)).take ((n-j)*k)) (by rw [hlen,L.sz]) (fun t u ht=>by
    have hlt:=(List.getElem?_eq_some_iff.1 ht).1
    rw [hlen] at hlt
    have hne:n-j≠0:=by
     intro h
     rw [h] at hlt
     omega
    rw [hA hne]
    refine Va (w:=w.drew) hg (l:=(cur.toList.drop (j*k)).take ((n-j)*k)) (fun t u ht=>?_) t u ht
    rw [List.getElem?_take] at ht
    split at ht
    ·rw [List.getElem?_drop] at ht;simpa using ht
    ·cases ht) h1n (by omega) (by rw [hlen,hcs,L.sz];omega)
  rw [hlen,L.sz] at this
  exact this
 obtain ⟨p,hp⟩:∃ p,n-(i+(n-j))=p+1:=⟨n-(i+(n-j))-1,by omega⟩
 have hclr:∀ ty cc,(Builtin.clear_ #[T] ty #[.slice (some ⟨b,(i+(n-j))*k,none⟩) (n-(i+(n-j))) cc]).run P (w.drew.setRow b (JS cur.toList k n i j).toArray) = .ok (.tuple #[]) ((w.drew.setRow b (JS cur.toList k n i j).toArray).setRow b (ZbA (JS cur.toList k n i j) z.cells.toList k n (i+(n-j))).toArray):=fun ty cc=>by
  have:=VQ (P:=P) (w:=w.drew.setRow b (JS cur.toList k n i j).toArray) (ty:=ty) (o:=i*k+(n-j)*k) (n:=p) (c:=cc) L.tT L.ie L.zero (J3 (w:=w.drew) hg) (by
   have hs:(JS cur.toList k n i j).toArray.size=c*k:=by simpa using hR1l
   rw [hs,← hp,L.zsz,hn8,hn7];omega) h1z
  rw [← hp,L.zsz,← hn7] at this
  exact this
 have hb0:(i:Int)≤(j:Int):=by omega
 have hb1:(j:Int)≤(n:Int):=by omega
 have hb2:¬ ((i:Int)=(j:Int)):=by omega
 have hb3:(i:Int)≤(n:Int):=by omega
 have hb4:(i:Int)+((n:Int)-(j:Int))≤(n:Int):=by omega
 have hb5:((i+(n-j):Nat):Int)≤(n:Int):=by omega
 have hb6:¬ (c=i+(n-j)):=by omega
 have hic:(i:Int)≤(c:Int):=by omega
 have hjc:(j:Int)≤(c:Int):=by omega
 have hnc':(n:Int)≤(c:Int):=by omega
 obtain ⟨zc,hzc⟩:∃ zc,zc=z.cells.toList:=⟨_,rfl⟩
 rw [← hzc] at hclr ⊢
 clear hg hcs hcl h1c h1z hR1l hlen h1n hn8 hp hn3 hn4 hn5 hn6 hn7 hzc
 refine calls_of_wp hf hb ?_
 rw [hnt]
 simp only [List.size_toArray,List.length_cons,List.length_nil,Nat.reduceAdd,Nat.reduceSub,Array.replicate_succ,Array.replicate_zero,List.push_toArray,List.append_toArray,List.nil_append,List.cons_append]
 unfold delCode
 by_cases hcj:c=j
 ·have hnn:n=c:=by omega
  subst hnn
  subst hcj
  have hap':=fun ty=>hap ⟨b,0,none⟩ (n-n) ty (by omega)
  simp only [Nat.sub_self,Nat.add_zero] at hap' hclr hb6 hb5 ⊢
  go_wp2
  go_region_law_o (refine KC rfl _ _ T T rfl _ _ (by simp [Act.eval,Act.put]) (by simp [Act.eval,Act.put]) (hap' _) ?_)
  go_wp2_with (at_builtin;refine Kf _ rfl _ T rfl _ rfl (hclr _ _) ?_)
  refine bodyPost_ret (results_tmp hrs _ _ _) rfl ?_
  exact ⟨rfl,rfl⟩
 ·have hap':=fun ty=>hap ⟨b,j*k,none⟩ (c-j) ty (fun _=>rfl)
  go_wp2
  go_region_law_o (refine KC rfl _ _ T T rfl _ _ (by simp [Act.eval,Act.put]) (by simp [Act.eval,Act.put]) (hap' _) ?_)
  go_wp2_with (at_builtin;refine Kf _ rfl _ T rfl _ rfl (hclr _ _) ?_)
  refine bodyPost_ret (results_tmp hrs _ _ _) rfl ?_
  exact ⟨rfl,rfl⟩
def WN {α β:Type} (R:α→β→Prop) (A:List α) (B:List β):Prop:=∀ (j:Nat) (z:α) (u:β),A[j]? = some z→B[j]? = some u→R z u
theorem WN.app {α β:Type} {R:α→β→Prop} {A A':List α} {B B':List β} (hl:A.length=B.length) (h:WN R A B) (h':WN R A' B'):WN R (A++A') (B++B'):=by
 intro j z u hz hu
 by_cases hj:j < A.length
 ·rw [List.getElem?_append_left hj] at hz
  rw [List.getElem?_append_left (by omega)] at hu
  exact h j z u hz hu
 ·rw [List.getElem?_append_right (by omega)] at hz
  rw [List.getElem?_append_right (by omega),← hl] at hu
  exact h' _ z u hz hu
theorem WN.take {α β:Type} {R:α→β→Prop} {A:List α} {B:List β} (h:WN R A B) (n:Nat):WN R (A.take n) (B.take n):=by
 intro j z u hz hu
 rw [List.getElem?_take] at hz hu
 split at hz
 ·rename_i hj
  rw [if_pos hj] at hu
  exact h j z u hz hu
 ·cases hz
theorem WN.drop {α β:Type} {R:α→β→Prop} {A:List α} {B:List β} (h:WN R A B) (n:Nat):WN R (A.drop n) (B.drop n):=by
 intro j z u hz hu
 rw [List.getElem?_drop] at hz hu
 exact h _ z u hz hu
theorem WN.cut {α β:Type} {R:α→β→Prop} {A:List α} {B:List β} (h:WN R A B) (n:Nat):WN R A (B.take n):=by
 intro j z u hz hu
 rw [List.getElem?_take] at hu
 split at hu
 ·exact h j z u hz hu
 ·cases hu
theorem WN.ext {α β:Type} {R:α→β→Prop} {A:List α} {B C:List β} (h:WN R A B) (hl:A.length≤B.length):WN R A (B++C):=by
 intro j z u hz hu
 have:=(List.getElem?_eq_some_iff.1 hz).1
 rw [List.getElem?_append_left (by omega)] at hu
 exact h j z u hz hu
theorem Zh8 {U vs:List Value} {k n m i:Nat} (hi:i≤n) (hU:(n+m)*k≤U.length) :
  ZcC U vs k n m i=U.take (i*k)++vs++((U.drop (i*k)).take ((n-i)*k)++U.drop ((i+m)*k+(n-i)*k)):=by
 have h1:(i+m)*k=i*k+m*k:=Nat.add_mul _ _ _
 have h2:(n+m)*k=n*k+m*k:=Nat.add_mul _ _ _
 have h3:i*k≤n*k:=Nat.mul_le_mul_right _ hi
 have hl:(U.take ((i+m)*k)).length=i*k+m*k:=by rw [List.length_take];omega
 unfold ZcC J8
 congr 1
 ·congr 1
  rw [List.append_assoc,List.take_append_of_le_length (by omega),List.take_take]
  congr 1
  omega
 ·rw [List.append_assoc,List.drop_append_of_le_length (by omega),List.drop_of_length_le (by omega),List.nil_append]
theorem Zg7 {U vs R:List Value} {k n m i:Nat} (hv:vs.length=m*k) (hR:i*k+m*k≤R.length) (hRU:R.take (i*k)=U.take (i*k)) :
  Zay (Kq R vs k m i) U k n m i=U.take (i*k)++vs++((U.drop (i*k)).take ((n-i)*k)++(Kq R vs k m i).drop (i*k+m*k+(n-i)*k)):=by
 have hl:(R.take (i*k)++vs).length=i*k+m*k:=by rw [List.length_append,List.length_take,hv];omega
 unfold Zay
 rw [List.append_assoc]
 congr 1
 unfold Kq
 rw [List.take_append_of_le_length (by omega),List.take_of_length_le (by omega),hRU]
theorem Zho {U zc:List Value} {k n i j:Nat} (hij:i≤j) (hj:j≤n) (hU:n*k≤U.length) :
  ZbA (JS U k n i j) zc k n (i+(n-j))=U.take (i*k)++(U.drop (j*k)).take ((n-j)*k)++
   ((List.replicate (n-(i+(n-j))) zc).flatten++(JS U k n i j).drop ((i+(n-j))*k+(n-(i+(n-j)))*k)):=by
 have h1:(i+(n-j))*k=i*k+(n-j)*k:=Nat.add_mul _ _ _
 have h2:(n-j)*k=n*k-j*k:=Nat.sub_mul _ _ _
 have h3:i*k≤j*k:=Nat.mul_le_mul_right _ hij
 have h4:j*k≤n*k:=Nat.mul_le_mul_right _ hj
 have hl:(U.take (i*k)++(U.drop (j*k)).take ((n-j)*k)).length=(i+(n-j))*k:=by rw [List.length_append,List.length_take,List.length_take,List.length_drop];omega
 unfold ZbA
 rw [List.append_assoc]
 congr 1
 unfold JS
 rw [List.take_append_of_le_length (by omega),List.take_of_length_le (by omega)]
theorem ZdA {w:World} {lim:Nat→Nat} {x:Bool} {e:TypeId} {xs:List (List AV)} {v:Value} {ob:Option Nat} (h:ZP P w lim x e xs v ob) (hne:xs≠[]) (hnm:Zg P e=false) :
  ∃ b arr cap,ob=some b∧v = .slice (some ⟨b,0,none⟩) xs.length cap∧w.heap[b]? = some (.cells arr e (0,0))∧xs.length≤cap∧cap≤maxLen∧arr.size=cap*P.cellsOf e∧
   (∀ x∈xs,x.length=P.cellsOf e)∧(∀ x∈xs,∀ z∈x,z.isCell=true)∧WN (Rep w lim) xs.flatten arr.toList∧(∀ b',ob=some b'→x=true→lim b'=0):=by
 rcases h.noMap hnm with ⟨us,h1,h2,h3,h4,h5,h6⟩ | ⟨h,_⟩
 ·rcases h1.2 with ⟨hv,hn⟩ | ⟨g,cap,cur,hv,hbg,hg,hnc,hcm,hcs,htake⟩
  ·exact (hne (List.eq_nil_of_length_eq_zero hn)).elim
  ·refine ⟨g,cur,cap,by rw [← h2,hv];rfl,hv,hg,hnc,hcm,hcs,h4,h5,fun j z u hz hu=>h6 j z u hz ?_,fun b' hb' hx=>by rw [h3 b' hb',if_pos hx]⟩
   have hj:=(List.getElem?_eq_some_iff.1 hz).1
   rw [Zh xs _ h4] at hj
   rw [← htake,List.getElem?_take,if_pos hj]
   exact hu
 ·exact (hne h).elim
theorem Zdb {w:World} {lim:Nat→Nat} {xs:List (List AV)} {us:List Value} (hc:∀ x∈xs,∀ z∈x,z.isCell=true) (h:WN (Rep w lim) xs.flatten us) (hl:us.length≤xs.flatten.length):∀ v∈us,v.oneCell'=true:=by
 intro v hv
 obtain ⟨j,hj⟩:=List.mem_iff_getElem?.1 hv
 have hlt:=(List.getElem?_eq_some_iff.1 hj).1
 have hz:=List.getElem?_eq_getElem (l:=xs.flatten) (i:=j) (by omega)
 obtain ⟨y,hy1,hy2⟩:=List.mem_flatten.1 (List.getElem_mem (l:=xs.flatten) (n:=j) (by omega))
 exact (h j _ v hz hj).oneCell (hc y hy1 _ hy2)
theorem ZI.trans {w w1 w2:World} {l l1 l2:Nat→Nat} {S S1 S2:Nat→Prop} (h:ZI w l w1 l1 S1) (h':ZI w1 l1 w2 l2 S2) (h1:∀ b,S1 b→S b) (h2:∀ b,S2 b→S b∨w.heap.size≤b):ZI w l w2 l2 S where
 os:=h'.os.trans h.os
 tape:=h'.tape.trans h.tape
 output:=h'.output.trans h.output
 size:=Nat.le_trans h.size h'.size
 frz a ha:=(h'.frz a (Nat.lt_of_lt_of_le ha h.size)).trans (h.frz a ha)
 blk b hb hn:=by
  have k1:=h.blk b hb fun hs=>hn (h1 b hs)
  have k2:=h'.blk b (Nat.lt_of_lt_of_le hb h.size) fun hs=>(h2 b hs).elim hn (fun h=>by omega)
  exact ⟨k2.1.trans k1.1,k2.2.trans k1.2⟩
 ext:=h.ext.trans h'.ext h.size
theorem WO (x:Bool) {f:FuncId} {args:List AV} {e:TypeId} {zs:List (List AV)} (hc:Callable P f) (hnm:Zg P e=false)
  (h:∀ (w:World) (lim:Nat→Nat) (X:Nat→Nat→Option Nat) (cargs:List Value),cargs.length≤args.length→(∀ i,ZJ P w lim X (ZG args) i (ZG args i) (cargs.getD i undef))→Zif X→(∀ i k b,X i k=some b→b < w.heap.size)→
   Calls P f cargs.toArray w fun e' w'=>∃ v lim' ob',e' = .returned v∧ZP P w' lim' true e zs v ob'∧ZI w lim w' lim' (fun b=>∃ i k,X i k=some b)∧∀ b,ob'=some b→b < w'.heap.size∧(((∃ i k,X i k=some b)∧lim b=0)∨w.heap.size≤b)) (hal:args.length < 1024:=by simp) :
  Jw P f args (.own x e zs) (List.replicate args.length .dead):=by
 refine ⟨hc,Nat.lt_trans hal (by decide),fun w lim X cargs hl hrel hd hs _=>?_⟩
 refine (h w lim X cargs (by omega) hrel hd hs).mono ?_
 rintro e' w' ⟨v,lim1,ob',he,ho1,hw1,hb1⟩
 have hx:∃ lim',ZP P w' lim' x e zs v ob'∧ZI w lim w' lim' (fun b=>∃ i k,X i k=some b):=by
  cases x
  case true=>exact ⟨lim1,ho1,hw1⟩
  case false=>
   cases ob' with
   | none =>
    refine ⟨lim1,?_,hw1⟩
    rcases ho1.noMap hnm with ⟨us,h1,h2,h3,h4,h5,h6⟩ | h
    ·exact .inl ⟨us,h1,h2,fun b hb=>(by cases hb),h4,h5,h6⟩
    ·exact .inr (.inl h)
   | some b0 =>
    have hl0:lim1 b0=0:=by
     rcases ho1.noMap hnm with ⟨us,h1,h2,h3,_⟩ | ⟨_,h,_⟩
     ·rw [h3 b0 rfl];rfl
     ·cases h
    have hbb:=hb1 b0 rfl
    have hext:Ext w' lim1 w' (K3 lim1 b0 (zs.length*P.cellsOf e)):=fun b _=>by
     refine ⟨?_,fun o u _ hu=>hu⟩
     unfold K3
     split
     ·rename_i h;rw [h,hl0];exact Nat.zero_le _
     ·exact Nat.le_refl _
    refine ⟨_,Za5 ho1 hnm hext,⟨hw1.os,hw1.tape,hw1.output,hw1.size,hw1.frz,fun b hb hn=>?_,hw1.ext.trans hext hw1.size⟩⟩
    obtain ⟨k1,k2⟩:=hw1.blk b hb hn
    refine ⟨k1,?_⟩
    have hne:b≠b0:=by
     rintro rfl
     rcases hbb.2 with h1 | h1
     ·exact hn h1.1
     ·omega
    show (if b=b0 then _ else lim1 b)=lim b
    rw [if_neg hne]
    exact k2
 obtain ⟨lim',ho,hw⟩:=hx
 have hb:∀ b,ob'=some b→b < w'.heap.size∧((∃ i k,X i k=some b)∨w.heap.size≤b):=fun b hb=>⟨(hb1 b hb).1,(hb1 b hb).2.imp (·.1) id⟩
 have hat:∀ i,ZG (List.replicate args.length AV.dead++[.own x e zs]) i=if i=args.length then .own x e zs else .dead:=by
  intro i
  unfold ZG
  by_cases hi:i < args.length
  ·rw [List.getElem?_append_left (by simpa using hi),List.getElem?_replicate,if_pos hi,if_neg (by omega)];rfl
  ·rw [List.getElem?_append_right (by simpa using hi),List.length_replicate]
   by_cases hi2:i=args.length
   ·subst hi2
    rw [if_pos rfl,Nat.sub_self]
    rfl
   ·rw [if_neg hi2,List.getElem?_eq_none (by simp;omega)]
    rfl
 refine ⟨v,lim',fun i k=>if i=args.length∧k=0 then ob' else none,he,hw,by simp,fun i=>?_,?_,?_,?_,fun i k e1 xs1 hi=>?_,fun k e1 xs1 b m1 m2=>?_⟩
 ·rw [hat]
  by_cases hi:i=args.length
  ·subst hi
   rw [if_pos rfl]
   show ZP P w' lim' x e zs _ _
   unfold WJ
   rw [if_pos rfl]
   show ZP P w' lim' x e zs _ (if args.length=args.length∧0=0 then ob' else none)
   rw [if_pos ⟨rfl,rfl⟩]
   exact ho
  ·rw [if_neg hi]
   trivial
 ·intro d k d' k' b h1 h2
  dsimp only at h1 h2
  split at h1
  ·split at h2
   ·rename_i a1 a2
    exact ⟨a1.1.trans a2.1.symm,a1.2.trans a2.2.symm⟩
   ·cases h2
  ·cases h1
 ·intro i k b h1
  dsimp only at h1
  split at h1
  ·exact hb b h1
  ·cases h1
 ·intro i h1
  rw [hat] at h1
  split at h1<;>simp [AV.isG] at h1
 ·exfalso
  have hdead:ZG (List.replicate args.length AV.dead) i = .dead:=by
   unfold ZG
   rw [List.getElem?_replicate]
   split<;>rfl
  rw [hdead] at hi
  cases k<;>cases hi
 ·exfalso
  cases k with
  | succ k => cases x <;> cases m1
  | zero =>
   cases x with
   | false => cases m1
   | true =>
    simp only [ZQ,Option.some.injEq,Prod.mk.injEq] at m1
    rw [← m1.1,ZY hnm] at m2
    cases m2
theorem Zff {w:World} {lim:Nat→Nat} {e:TypeId} {xs:List (List AV)} {v:Value} {ob:Option Nat} {b:Nat} (h:ZP P w lim true e xs v ob) (hb:ob=some b):lim b=0:=by
 rcases h with ⟨us,h1,h2,h3,_⟩ | ⟨_,h,_⟩ | ⟨_,⟨_,b',_,_,_,_,_,h,_,_,hl,_⟩ | h | ⟨_,b',_,_,_,_,_,h,_,_,hl,_⟩⟩
 ·rw [h3 b hb];rfl
 ·rw [h] at hb;cases hb
 ·rw [h] at hb;cases hb;exact hl
 ·subst hb;exact h.2.2.lim0
 ·rw [h] at hb;cases hb;exact hl
theorem ZcH {cargs:List Value} (hl:cargs.length≤3) (h:cargs.getD 2 undef≠undef):cargs.toArray = #[cargs.getD 0 undef,cargs.getD 1 undef,cargs.getD 2 undef]:=by
 match cargs,hl,h with
 | [], _, h => exact (h rfl).elim
 | [_], _, h => exact (h rfl).elim
 | [_, _], _, h => exact (h rfl).elim
 | [_, _, _], _, _ => rfl
 | _ :: _ :: _ :: _ :: _, hl, _ => simp at hl
theorem arg_int {w:World} {lim:Nat→Nat} {X:Nat→Nat→Option Nat} {σ:Nat→AV} {d:Nat} {k:IntKind} {z:Int} {v:Value} (h:ZJ P w lim X σ d (.val (.int k z)) v):v = .int k z:=KU (show Rep w lim _ v from h)
structure ZnT (P:Program) (T B I:TypeId) (fO fR:FuncId) (f:FuncId):Prop where
 fn : ∃ fn, P.funcs[f]? = some fn ∧ fn.body = some (insCode T B I fO fR) ∧ fn.ntmps = 95 ∧ fn.results = #[.tmp 6] ∧ (fn.name == "runtime.NumGoroutine") = false
theorem ZnC (x:Bool) {T B I:TypeId} {fO fR:FuncId} {e:TypeId} {inf:TypeInfo} {z:Value} {k:Nat} (L:ZaQ P T B I fO e inf z k) {f:FuncId} (hF:ZnT P T B I fO fR f) {xs ys:List (List AV)} {i:Int}
  (h0:0≤i) (hi:i.toNat≤xs.length) (hys:ys≠[]) (hroom:(xs.length+ys.length)*(inf.bytes+1)≤Z1) :
  Jw P f [.own true e xs,.val (.int .i64 i),.own false e ys] (.own x e (xs.take i.toNat++ys++xs.drop i.toNat)) [.dead,.dead,.dead]:=by
 obtain ⟨fn,hf,hb,hnt,hrs,hname⟩:=hF.fn
 have hce:P.cellsOf e=k:=by rw [Zx L.ie,L.sz]
 have hb1:xs.length+ys.length≤1099511627776:=by
  have:(xs.length+ys.length)*1≤(xs.length+ys.length)*(inf.bytes+1):=Nat.mul_le_mul_left _ (by omega)
  unfold Z1 at hroom
  omega
 have hb2:(xs.length+ys.length)*inf.bytes≤1099511627776:=by
  have:(xs.length+ys.length)*inf.bytes≤(xs.length+ys.length)*(inf.bytes+1):=Nat.mul_le_mul_left _ (by omega)
  unfold Z1 at hroom
  omega
 have hm0:0 < ys.length:=List.length_pos_iff.2 hys
 refine WO x (args:=[.own true e xs,.val (.int .i64 i),.own false e ys]) ⟨fn,hf,hname,by rw [hb];rfl⟩ L.nm fun w lim X cargs hl hrel hdist hsize=>?_
 have r0:ZP P w lim true e xs (cargs.getD 0 undef) (X 0 0):=hrel 0
 have r1:=arg_int (hrel 1)
 have r2:ZP P w lim false e ys (cargs.getD 2 undef) (X 2 0):=hrel 2
 obtain ⟨vb,vcur,vc,hX2,hv2,hvg,hmv,hvcm,hvs,hyl,hyc,hyr,_⟩:=ZdA r2 hys L.nm
 have hrep2:=ZP.rep r2 false rfl
 rw [ZcH hl (by rw [hv2];simp [undef]),r1]
 have hii:i=((i.toNat:Nat):Int):=by omega
 rw [hii]
 obtain ⟨q,hq⟩:∃ q,q=i.toNat:=⟨_,rfl⟩
 have hqe:(((i.toNat:Nat):Int)).toNat=q:=by omega
 rw [hqe,← hq]
 rw [← hq] at hi
 by_cases hend:q=xs.length
 ·obtain ⟨v',w',lim',ob',hrun,ho,hst,hob⟩:=Ka (ty:=T) L.tT L.ie L.zero (by rw [L.zsz,L.sz]) r0 (.of hrep2) hroom L.nm
  have hvform:∃ base cap,cargs.getD 0 undef = .slice base xs.length cap∧xs.length≤cap:=by
   rcases r0.noMap L.nm with ⟨us,hr,_⟩ | ⟨rfl,_,a,hv⟩
   ·rcases hr.2 with ⟨hv,hn⟩ | ⟨g,cap,cur,hv,_,_,hnc,_⟩
    ·exact ⟨none,0,by rw [hv,hn],by omega⟩
    ·exact ⟨_,cap,hv,hnc⟩
   ·exact ⟨_,0,hv,Nat.le_refl _⟩
  obtain ⟨base,cap,hv0,hle⟩:=hvform
  rw [hend,hv0,hv2]
  rw [hv0,hv2] at hrun
  have hty:∀ ty,(Builtin.append_ #[T,T] ty #[.slice base xs.length cap,.slice (some ⟨vb,0,none⟩) ys.length vc]).run P w = .ok v' w':=fun ty=>hrun
  refine (Zmq L hf hb hnt hrs base xs.length cap _ ys.length vc w w' v' hm0 hle hty).mono ?_
  rintro e' w'' ⟨rfl,rfl⟩
  refine ⟨v',lim',ob',rfl,by rw [List.take_length,List.drop_length,List.append_nil];exact ho,⟨hst.os,hst.tape,hst.output,hst.size,hst.frz,fun b hb hn=>hst.blk b hb fun h=>hn ⟨0,0,h⟩,hst.ext⟩,fun b hb=>?_⟩
  rcases hob with h | h
  ·rw [h] at hb
   exact ⟨Nat.lt_of_lt_of_le (hsize 0 0 b hb) hst.size,.inl ⟨⟨0,0,hb⟩,Zff r0 hb⟩⟩
  ·subst h
   cases hb
   rcases ho.noMap L.nm with ⟨us,g1,g2,_⟩ | ⟨_,h,_⟩
   ·exact ⟨(g1.lt _ g2).2,.inr (Nat.le_refl _)⟩
   ·cases h
 ·have hlt:q < xs.length:=by omega
  have hxs:xs≠[]:=by rintro rfl;simp at hlt
  obtain ⟨b,cur,c,hX0,hv0,hg,hnc,hcm,hcs,hxl,hxc,hxr,hlim⟩:=ZdA r0 hxs L.nm
  have hlb:lim b=0:=hlim b hX0 rfl
  have hvb:vb≠b:=by
   rintro rfl
   have:=(hdist 0 0 2 0 vb hX0 hX2).1
   omega
  rw [hce] at hcs hvs hxl hyl
  have hxf:xs.flatten.length=xs.length*k:=Zh xs k hxl
  have hyf:ys.flatten.length=ys.length*k:=Zh ys k hyl
  have hcl:cur.toList.length=c*k:=by simpa using hcs
  have hvl:vcur.toList.length=vc*k:=by simpa using hvs
  have hn5:xs.length*k≤c*k:=Nat.mul_le_mul_right _ hnc
  have hn6:ys.length*k≤vc*k:=Nat.mul_le_mul_right _ hmv
  have hn7:q*k≤xs.length*k:=Nat.mul_le_mul_right _ hi
  have hn8:(xs.length-q)*k=xs.length*k-q*k:=Nat.sub_mul _ _ _
  have hn9:(xs.length+ys.length)*k=xs.length*k+ys.length*k:=Nat.add_mul _ _ _
  have hxt:WN (Rep w lim) xs.flatten (cur.toList.take (xs.length*k)):=hxr.cut _
  have hyt:WN (Rep w lim) ys.flatten (vcur.toList.take (ys.length*k)):=hyr.cut _
  have h1c:∀ v∈cur.toList.take (xs.length*k),v.oneCell'=true:=Zdb hxc hxt (by rw [List.length_take,hxf];omega)
  have h1v:∀ v∈vcur.toList.take (ys.length*k),v.oneCell'=true:=Zdb hyc hyt (by rw [List.length_take,hyf];omega)
  have hzl:∀ x∈xs.take q++ys++xs.drop q,x.length=k:=by
   intro x hx
   rcases List.mem_append.1 hx with hx | hx
   ·rcases List.mem_append.1 hx with hx | hx
    ·exact hxl x (List.mem_of_mem_take hx)
    ·exact hyl x hx
   ·exact hxl x (List.mem_of_mem_drop hx)
  have hzc:∀ x∈xs.take q++ys++xs.drop q,∀ y∈x,y.isCell=true:=by
   intro x hx
   rcases List.mem_append.1 hx with hx | hx
   ·rcases List.mem_append.1 hx with hx | hx
    ·exact hxc x (List.mem_of_mem_take hx)
    ·exact hyc x hx
   ·exact hxc x (List.mem_of_mem_drop hx)
  have hzn:(xs.take q++ys++xs.drop q).length=xs.length+ys.length:=by
   simp only [List.length_append,List.length_take,List.length_drop]
   omega
  have heach:∀ rest,WN (Rep w lim) (xs.take q++ys++xs.drop q).flatten (cur.toList.take (q*k)++vcur.toList.take (ys.length*k)++((cur.toList.drop (q*k)).take ((xs.length-q)*k)++rest)):=by
   intro rest
   rw [List.flatten_append,List.flatten_append,YZ k xs q hxl,Y2 k xs q hxl]
   refine WN.app ?_ (WN.app ?_ (hxr.take _) hyt) (WN.ext ((hxr.drop _).cut _) ?_)
   ·simp only [List.length_append,List.length_take,hxf,hyf,hcl,hvl];omega
   ·simp only [List.length_take,hxf,hcl];omega
   ·simp only [List.length_take,List.length_drop,hxf,hcl];omega
  rw [hv0,hv2]
  by_cases hr:xs.length+ys.length≤c
  ·refine (Zjq L hf hb hnt hrs b xs.length c q vb ys.length vc cur vcur w hlt hm0 hr (by unfold maxLen at hcm;omega) hvb hg hcs hvg hvs hmv h1c h1v).mono ?_
   rintro e' w' ⟨rfl,rfl⟩
   have s1:ZI w lim (w.drew.setRow b (J8 cur.toList k xs.length ys.length q).toArray) lim (fun x=>x=b):=by
    have:=Z3 (w:=w.drew) (lim:=lim) (cs:=(J8 cur.toList k xs.length ys.length q).toArray) hg hlb
    exact ⟨this.os,this.tape,this.output,this.size,this.frz,this.blk,this.ext⟩
   have s2:=Z3 (lim:=lim) (cs:=(ZcC cur.toList (vcur.toList.take (ys.length*k)) k xs.length ys.length q).toArray) (J3 (w:=w.drew) (cur':=(J8 cur.toList k xs.length ys.length q).toArray) hg) hlb
   have s3:ZI w lim _ lim (fun x=>∃ i j,X i j=some x):=s1.trans s2 (fun x hx=>⟨0,0,by rw [hx];exact hX0⟩) (fun x hx=>.inl ⟨0,0,by rw [hx];exact hX0⟩)
   have hU:(xs.length+ys.length)*k≤cur.toList.length:=by rw [hcl];exact Nat.mul_le_mul_right _ hr
   have heq:=Zh8 (vs:=vcur.toList.take (ys.length*k)) hi hU
   refine ⟨_,lim,some b,rfl,?_,s3,fun b' hb'=>?_⟩
   ·have hrow:=K2 (P:=P) (w:=(w.drew.setRow b (J8 cur.toList k xs.length ys.length q).toArray).setRow b (ZcC cur.toList (vcur.toList.take (ys.length*k)) k xs.length ys.length q).toArray) (lim:=lim) (e:=e)
     (xs:=xs.take q++ys++xs.drop q) (b:=b) (cap:=c) (J3 (J3 (w:=w.drew) hg)) hlb (by rw [hzn];exact hr) hcm ?_ (by rw [hce];exact hzl) hzc ?_
    ·rw [hzn] at hrow
     exact hrow
    ·rw [hce,List.size_toArray,heq]
     simp only [List.length_append,List.length_take,List.length_drop,hcl,hvl]
     have:(q+ys.length)*k=q*k+ys.length*k:=Nat.add_mul _ _ _
     have:(xs.length+ys.length)*k≤c*k:=Nat.mul_le_mul_right _ hr
     omega
    ·intro j z u hz hu
     rw [List.getElem?_toArray,heq] at hu
     exact (heach _ j z u hz hu).mono s3.ext
   ·cases hb'
    exact ⟨Nat.lt_of_lt_of_le (hsize 0 0 b hX0) s3.size,.inl ⟨⟨0,0,hX0⟩,hlb⟩⟩
  ·refine (ZkT L hf hb hnt hrs b xs.length c q vb ys.length vc cur vcur w hlt hm0 hnc (by omega) (by omega) (by omega) hg hcs hvg hvs hmv h1c h1v).mono ?_
   rintro e' w' ⟨G,hG1,hG2,rfl,rfl⟩
   obtain ⟨R0,hR0⟩:∃ R0,R0=K4 cur.toList z.cells k xs.length ys.length q G:=⟨_,rfl⟩
   rw [← hR0]
   have hR0s:R0.size=G*k:=by rw [hR0];exact WV L.zsz hi hG1 (by rw [hcl];omega)
   have hR0l:R0.toList.length=G*k:=by simpa using hR0s
   have hGk:(xs.length+ys.length)*k≤G*k:=Nat.mul_le_mul_right _ hG1
   have hvtl:(vcur.toList.take (ys.length*k)).length=ys.length*k:=by rw [List.length_take,hvl];omega
   have hRU:R0.toList.take (q*k)=cur.toList.take (q*k):=by
    rw [hR0]
    unfold K4
    rw [Array.toList_append,Array.toList_append]
    rw [List.append_assoc,List.take_append_of_le_length (by simp only [List.length_take,hcl];omega),List.take_of_length_le (by simp only [List.length_take,hcl];omega)]
   have heq:=Zg7 (U:=cur.toList) (n:=xs.length) (i:=q) hvtl (by rw [hR0l];omega) hRU
   obtain ⟨W0,hW0⟩:∃ W0,W0=w.drew.alloc (.cells R0 e):=⟨_,rfl⟩
   obtain ⟨l0,hl0⟩:∃ l0,l0=fun x=>if x=w.heap.size then 0 else lim x:=⟨_,rfl⟩
   have s0:ZI w lim W0 l0 (fun x=>∃ i j,X i j=some x):=by
    have:=Yd w.drew lim R0 e 0 (fun x=>∃ i j,X i j=some x)
    rw [hW0,hl0]
    exact ⟨this.os,this.tape,this.output,this.size,this.frz,this.blk,this.ext⟩
   have g0:W0.heap[w.heap.size]? = some (.cells R0 e (0,0)):=by rw [hW0];exact Yo w.drew R0 e
   have hll:l0 w.heap.size=0:=by rw [hl0];exact if_pos rfl
   rw [← hW0]
   obtain ⟨R1,hR1⟩:∃ R1,R1=Kq R0.toList (vcur.toList.take (ys.length*k)) k ys.length q:=⟨_,rfl⟩
   rw [← hR1] at heq ⊢
   obtain ⟨R2,hR2⟩:∃ R2,R2=Zay R1 cur.toList k xs.length ys.length q:=⟨_,rfl⟩
   rw [← hR2] at heq ⊢
   have hR1l:R1.length=G*k:=by
    rw [hR1]
    simp only [Kq,List.length_append,hvtl,List.length_take,List.length_drop,hR0l]
    omega
   have s1:=Z3 (cs:=R1.toArray) g0 hll
   have g1:((W0.setRow w.heap.size R1.toArray).drew).heap[w.heap.size]? = some (.cells R1.toArray e (0,0)):=J3 g0
   have s2:=Z3 (w:=(W0.setRow w.heap.size R1.toArray).drew) (cs:=R2.toArray) g1 hll
   have s12:ZI w lim (W0.setRow w.heap.size R1.toArray).drew l0 (fun x=>∃ i j,X i j=some x):=(s0.trans s1 (fun x hx=>hx) (fun x hx=>.inr (by omega))).drew
   have s3:=s12.trans (S:=fun x=>∃ i j,X i j=some x) s2 (fun x hx=>hx) (fun x hx=>.inr (by omega))
   refine ⟨_,l0,some w.heap.size,rfl,?_,s3,fun b' hb'=>?_⟩
   ·have hrow:=K2 (P:=P) (w:=((W0.setRow w.heap.size R1.toArray).drew).setRow w.heap.size R2.toArray) (lim:=l0) (e:=e)
     (xs:=xs.take q++ys++xs.drop q) (b:=w.heap.size) (cap:=G) (J3 g1) hll (by rw [hzn];exact hG1) hG2 ?_ (by rw [hce];exact hzl) hzc ?_
    ·rw [hzn] at hrow
     exact hrow
    ·rw [hce,List.size_toArray,heq]
     simp only [List.length_append,hvtl,List.length_take,List.length_drop,hcl,hR1l]
     omega
    ·intro j z u hz hu
     rw [List.getElem?_toArray,heq] at hu
     exact (heach _ j z u hz hu).mono s3.ext
   ·cases hb'
    exact ⟨Nat.lt_of_lt_of_le (by have:=(Array.getElem?_eq_some_iff.1 g1).1;exact this) s2.size,.inr (Nat.le_refl _)⟩
set_option maxHeartbeats 4000000 in
set_option maxRecDepth 100000 in
theorem Zkf {T B I U e:TypeId} {inf:TypeInfo} {z:Value} {k:Nat} (L:ZaM P T B I e inf z k) {f:FuncId} {fn:Func} (hf:P.funcs[f]? = some fn) (hb:fn.body=some (delCode T B I U)) (hnt:fn.ntmps=33) (hrs:fn.results = #[.tmp 6])
  (base:Option Addr) (n c i:Nat) (w:World) (hin:i≤n) (hnc:n≤c) :
  Calls P f #[.slice base n c,.int .i64 i,.int .i64 i] w fun e' w'=>e' = .returned (.slice base n c)∧w'=w:=by
 have mixed:=L.mixed
 have t0:=L.tT;have t1:=L.tI;have t2:=L.tB
 have u0:=run_underlying L.tT;have u1:=run_underlying L.tI;have u2:=run_underlying L.tB
 have zsE:∀ w,(Go.sizeOf e).run P w = .ok k w:=fun w=>by rw [Zq L.ie];rw [Zx L.ie,L.sz]
 have hb0:(i:Int)≤(n:Int):=by omega
 have hb1:(n:Int)≤(c:Int):=by omega
 have hb2:(i:Int)≤(c:Int):=by omega
 refine calls_of_wp hf hb ?_
 rw [hnt]
 simp only [List.size_toArray,List.length_cons,List.length_nil,Nat.reduceAdd,Nat.reduceSub,Array.replicate_succ,Array.replicate_zero,List.push_toArray,List.append_toArray,List.nil_append,List.cons_append]
 unfold delCode
 cases base with
 | none =>
  go_wp2
  all_goals
   refine bodyPost_ret (results_tmp hrs _ _ _) rfl ?_
   exact ⟨rfl,rfl⟩
 | some a =>
  obtain ⟨ab,ao,asp⟩:=a
  go_wp2
  all_goals
   refine bodyPost_ret (results_tmp hrs _ _ _) rfl ?_
   exact ⟨rfl,rfl⟩
structure Zob (P:Program) (T B I U:TypeId) (z:Value) (f:FuncId):Prop where
 fn : ∃ fn, P.funcs[f]? = some fn ∧ fn.body = some (delCode T B I U) ∧ fn.ntmps = 33 ∧ fn.results = #[.tmp 6] ∧ (fn.name == "runtime.NumGoroutine") = false
 one:∀ v∈z.cells.toList,v.oneCell'=true
theorem Zny (x:Bool) {T B I U e:TypeId} {inf:TypeInfo} {z:Value} {k:Nat} (L:ZaM P T B I e inf z k) {f:FuncId} (hF:Zob P T B I U z f) {xs:List (List AV)} {i j:Int}
  (h0:0≤i) (hij:i≤j) (hj:j.toNat≤xs.length) :
  Jw P f [.own true e xs,.val (.int .i64 i),.val (.int .i64 j)] (.own x e (xs.take i.toNat++xs.drop j.toNat)) [.dead,.dead,.dead]:=by
 obtain ⟨fn,hf,hb,hnt,hrs,hname⟩:=hF.fn
 have hce:P.cellsOf e=k:=by rw [Zx L.ie,L.sz]
 refine WO x (args:=[.own true e xs,.val (.int .i64 i),.val (.int .i64 j)]) ⟨fn,hf,hname,by rw [hb];rfl⟩ L.nm fun w lim X cargs hl hrel hdist hsize=>?_
 have r0:ZP P w lim true e xs (cargs.getD 0 undef) (X 0 0):=hrel 0
 have r1:=arg_int (hrel 1)
 have r2:=arg_int (hrel 2)
 rw [ZcH hl (by rw [r2];simp [undef]),r1,r2]
 obtain ⟨p,rfl⟩:∃ p:Nat,i=p:=⟨i.toNat,by omega⟩
 obtain ⟨q,rfl⟩:∃ q:Nat,j=q:=⟨j.toNat,by omega⟩
 rw [Int.toNat_natCast] at hj ⊢
 rw [Int.toNat_natCast]
 have hpq:p≤q:=by omega
 by_cases heq:p=q
 ·subst heq
  have hvform:∃ base cap,cargs.getD 0 undef = .slice base xs.length cap∧xs.length≤cap:=by
   rcases r0.noMap L.nm with ⟨us,hr,_⟩ | ⟨rfl,_,a,hv⟩
   ·rcases hr.2 with ⟨hv,hn⟩ | ⟨g,cap,cur,hv,_,_,hnc,_⟩
    ·exact ⟨none,0,by rw [hv,hn],by omega⟩
    ·exact ⟨_,cap,hv,hnc⟩
   ·exact ⟨_,0,hv,Nat.le_refl _⟩
  obtain ⟨base,cap,hv0,hle⟩:=hvform
  rw [hv0] at r0 ⊢
  refine (Zkf L hf hb hnt hrs base xs.length cap p w hj hle).mono ?_
  rintro e' w' ⟨rfl,rfl⟩
  exact ⟨_,lim,X 0 0,rfl,by rw [List.take_append_drop];exact r0,ZI.refl _ _ _,fun b hb=>⟨hsize 0 0 b hb,.inl ⟨⟨0,0,hb⟩,Zff r0 hb⟩⟩⟩
 ·have hlt:p < q:=by omega
  have hxs:xs≠[]:=by rintro rfl;simp at hj;omega
  obtain ⟨b,cur,c,hX0,hv0,hg,hnc,hcm,hcs,hxl,hxc,hxr,hlim⟩:=ZdA r0 hxs L.nm
  have hlb:lim b=0:=hlim b hX0 rfl
  rw [hce] at hcs hxl
  have hxf:xs.flatten.length=xs.length*k:=Zh xs k hxl
  have hcl:cur.toList.length=c*k:=by simpa using hcs
  have hn5:xs.length*k≤c*k:=Nat.mul_le_mul_right _ hnc
  have hn7:p*k≤q*k:=Nat.mul_le_mul_right _ hpq
  have hn8:q*k≤xs.length*k:=Nat.mul_le_mul_right _ hj
  have hn9:(xs.length-q)*k=xs.length*k-q*k:=Nat.sub_mul _ _ _
  have h1c:∀ v∈cur.toList.take (xs.length*k),v.oneCell'=true:=Zdb hxc (hxr.cut _) (by rw [List.length_take,hxf];omega)
  have hzl:∀ x∈xs.take p++xs.drop q,x.length=k:=by
   intro x hx
   rcases List.mem_append.1 hx with hx | hx
   ·exact hxl x (List.mem_of_mem_take hx)
   ·exact hxl x (List.mem_of_mem_drop hx)
  have hzc:∀ x∈xs.take p++xs.drop q,∀ y∈x,y.isCell=true:=by
   intro x hx
   rcases List.mem_append.1 hx with hx | hx
   ·exact hxc x (List.mem_of_mem_take hx)
   ·exact hxc x (List.mem_of_mem_drop hx)
  have hzn:(xs.take p++xs.drop q).length=p+(xs.length-q):=by
   simp only [List.length_append,List.length_take,List.length_drop]
   omega
  have heach:∀ rest,WN (Rep w lim) (xs.take p++xs.drop q).flatten (cur.toList.take (p*k)++(cur.toList.drop (q*k)).take ((xs.length-q)*k)++rest):=by
   intro rest
   rw [List.flatten_append,YZ k xs p hxl,Y2 k xs q hxl,List.append_assoc]
   refine WN.app ?_ (hxr.take _) (WN.ext ((hxr.drop _).cut _) ?_)
   ·simp only [List.length_take,hxf,hcl];omega
   ·simp only [List.length_take,List.length_drop,hxf,hcl];omega
  rw [hv0]
  refine (Zl7 L hf hb hnt hrs b xs.length c p q cur w hlt hj hnc (by unfold maxLen at hcm;omega) hg hcs h1c hF.one).mono ?_
  rintro e' w' ⟨rfl,rfl⟩
  have heq2:=Zho (U:=cur.toList) (zc:=z.cells.toList) hpq hj (by rw [hcl];exact hn5)
  obtain ⟨R1,hR1⟩:∃ R1,R1=JS cur.toList k xs.length p q:=⟨_,rfl⟩
  rw [← hR1] at heq2 ⊢
  obtain ⟨R2,hR2⟩:∃ R2,R2=ZbA R1 z.cells.toList k xs.length (p+(xs.length-q)):=⟨_,rfl⟩
  rw [← hR2] at heq2 ⊢
  have hR1l:R1.length=c*k:=by
   rw [hR1]
   simp only [JS,List.length_append,List.length_take,List.length_drop,hcl]
   omega
  have s1:ZI w lim (w.drew.setRow b R1.toArray) lim (fun x=>x=b):=by
   have:=Z3 (w:=w.drew) (lim:=lim) (cs:=R1.toArray) hg hlb
   exact ⟨this.os,this.tape,this.output,this.size,this.frz,this.blk,this.ext⟩
  have s2:=Z3 (lim:=lim) (cs:=R2.toArray) (J3 (w:=w.drew) (cur':=R1.toArray) hg) hlb
  have s3:ZI w lim _ lim (fun x=>∃ i j,X i j=some x):=s1.trans s2 (fun x hx=>⟨0,0,by rw [hx];exact hX0⟩) (fun x hx=>.inl ⟨0,0,by rw [hx];exact hX0⟩)
  refine ⟨_,lim,some b,rfl,?_,s3,fun b' hb'=>?_⟩
  ·have hrow:=K2 (P:=P) (w:=(w.drew.setRow b R1.toArray).setRow b R2.toArray) (lim:=lim) (e:=e)
    (xs:=xs.take p++xs.drop q) (b:=b) (cap:=c) (J3 (J3 (w:=w.drew) hg)) hlb (by rw [hzn];omega) hcm ?_ (by rw [hce];exact hzl) hzc ?_
   ·rw [hzn] at hrow
    exact hrow
   ·have hfl:((List.replicate (xs.length-(p+(xs.length-q))) z.cells.toList).flatten).length=(xs.length-(p+(xs.length-q)))*k:=by simp [← L.zsz]
    have e1:(p+(xs.length-q))*k=p*k+(xs.length-q)*k:=Nat.add_mul _ _ _
    have e2:(xs.length-(p+(xs.length-q)))*k=xs.length*k-(p+(xs.length-q))*k:=Nat.sub_mul _ _ _
    rw [hce,List.size_toArray,heq2]
    simp only [List.length_append,hfl,List.length_take,List.length_drop,hcl,hR1l]
    omega
   ·intro j z u hz hu
    rw [List.getElem?_toArray,heq2] at hu
    exact (heach _ j z u hz hu).mono s3.ext
  ·cases hb'
   exact ⟨Nat.lt_of_lt_of_le (hsize 0 0 b hX0) s3.size,.inl ⟨⟨0,0,hX0⟩,hlb⟩⟩
def Zoe (bytes:Nat) (xs:LL) (i:Int) (ys:LL):Option LL:=
 ZF (0≤i)<|ZF (i≤(xs.length:Int))<|ZF (ys≠[])<|ZF (YL xs ys bytes)<|some (xs.take i.toNat++ys++xs.drop i.toNat)
def ZnV (xs:LL) (i j:Int):Option LL:=
 ZF (0≤i)<|ZF (i≤j)<|ZF (j≤(xs.length:Int))<|some (xs.take i.toNat++xs.drop j.toNat)
def Zof (bytes:Nat):List V→Option LL
 | [.l xs, .i i, .l ys] => Zoe bytes xs i ys
 | _ => none
def Zn9:List V→Option LL
 | [.l xs, .i i, .i j] => ZnV xs i j
 | _ => none
def Zoi (x:Bool) (e:TypeId) (bytes:Nat):Fun where
 args:=[.c (.own true e),.c (.int .i64),.c (.own false e)]
 res:=[.c (.own x e)]
 g:=Zof bytes
def Zoj (x:Bool) (e:TypeId):Fun where
 args:=[.c (.own true e),.c (.int .i64),.c (.int .i64)]
 res:=[.c (.own x e)]
 g:=Zn9
def insChk (P:Program) (T B I e:TypeId) (bytes:Nat):Bool:=
 (match P.underlying T with | some (.slice e')=>e' == e | _=>false)&&(match P.underlying I with | some (.int k)=>k == .i64 | _=>false)&&(match P.underlying B with | some .bool=>true | _=>false)&&
 match P.info? e with
 | some i => (i.bytes == bytes && !Zg P e) && decide (0 < i.size) && (match i.zero with | some z => z.cells.size == i.size && z.cells.toList.all (fun v => v.oneCell') | none => false)
 | none => false
theorem Zck {T B I e:TypeId} {bytes:Nat} (hm:P.follows .mixedOrders=true) (h:insChk P T B I e bytes=true) :
  ∃ inf z k,inf.bytes=bytes∧(∀ v∈z.cells.toList,v.oneCell'=true)∧ZaM P T B I e inf z k:=by
 simp only [insChk,Bool.and_eq_true] at h
 obtain ⟨⟨⟨h1,h2⟩,h3⟩,h4⟩:=h
 split at h1
 case h_2=>cases h1
 rename_i e' hT
 rw [beq_iff_eq] at h1
 subst h1
 split at h2
 case h_2=>cases h2
 rename_i kk hI
 rw [beq_iff_eq] at h2
 subst h2
 split at h3
 case h_2=>cases h3
 rename_i hB
 split at h4
 case h_2=>cases h4
 rename_i inf hinf
 simp only [Bool.and_eq_true,beq_iff_eq,decide_eq_true_eq,Bool.not_eq_true'] at h4
 obtain ⟨⟨⟨h5,h8⟩,h6⟩,h7⟩:=h4
 split at h7
 case h_2=>cases h7
 rename_i z hz
 simp only [Bool.and_eq_true,beq_iff_eq,List.all_eq_true] at h7
 exact ⟨inf,z,inf.size,h5,fun v hv=>h7.2 v hv,⟨hm,hT,hI,hB,hinf,hz,h7.1,rfl,h6,h8⟩⟩
def Func.looksIns (fn:Func) (T B I:TypeId) (fO fR:FuncId):Prop:=fn.body=some (insCode T B I fO fR)∧fn.ntmps=95∧fn.results = #[.tmp 6]
theorem insF_ok {x : Bool} {T B I e : TypeId} {bytes : Nat} {f fO fR : FuncId} {fn fo : Func} (hm : P.follows .mixedOrders = true) (hc : insChk P T B I e bytes = true) (hf : P.funcs[f]? = some fn) (hname : (fn.name == "runtime.NumGoroutine") = false)
  (hl : Func.looksIns fn T B I fO fR) (hfo : P.funcs[fO]? = some fo) (ho1 : (fo.name == "runtime.NumGoroutine") = false) (ho2 : fo.body.isNone = true) (ho3 : Extern.findNext fo = none)
  (ho4:Extern.find fo=some (Extern.SlicesOverlaps.overlaps #[T,T] #[B])):(Zoi x e bytes).Ok P f:=by
 obtain ⟨inf,z,k,hb,_,hL⟩:=Zck hm hc
 have L:ZaQ P T B I fO e inf z k:=⟨hL,fun args w=>run_callFunc_extern hfo ho1 ho2 ho3 ho4 args w⟩
 intro vs r h
 have h:Zof bytes vs=some r:=h
 unfold Zof at h
 split at h
 case h_2=>cases h
 rename_i xs i ys _
 obtain ⟨h0,h⟩:=Js h
 obtain ⟨h1,h⟩:=Js h
 obtain ⟨h2,h⟩:=Js h
 obtain ⟨h3,h⟩:=Js h
 cases h
 rw [YL,← hb] at h3
 exact ZnC x L ⟨fn,hf,hl.1,hl.2.1,hl.2.2,hname⟩ h0 (show i.toNat≤xs.length by omega) h2 h3
def Func.looksDel (fn:Func) (T B I U:TypeId):Prop:=fn.body=some (delCode T B I U)∧fn.ntmps=33∧fn.results = #[.tmp 6]
theorem delF_ok {x : Bool} {T B I U e : TypeId} {bytes : Nat} {f : FuncId} {fn : Func} (hm : P.follows .mixedOrders = true) (hc : insChk P T B I e bytes = true) (hf : P.funcs[f]? = some fn) (hname : (fn.name == "runtime.NumGoroutine") = false)
  (hl:Func.looksDel fn T B I U):(Zoj x e).Ok P f:=by
 obtain ⟨inf,z,k,_,hz,L⟩:=Zck hm hc
 intro vs r h
 have h:Zn9 vs=some r:=h
 unfold Zn9 at h
 split at h
 case h_2=>cases h
 rename_i xs i j _
 obtain ⟨h0,h⟩:=Js h
 obtain ⟨h1,h⟩:=Js h
 obtain ⟨h2,h⟩:=Js h
 cases h
 exact Zny x L ⟨⟨fn,hf,hl.1,hl.2.1,hl.2.2,hname⟩,hz⟩ h0 h1 (show j.toNat≤xs.length by omega)
end Go.AM
end

section
set_option linter.unusedVariables false
set_option linter.unusedSimpArgs false
namespace Go.AM
open Go.Shelf Go.RowKit Go.Lib
variable {P:Program}
noncomputable def ZlR (bytes:Nat) (xs:LL) (n:Int):Option LL:=
 ZF (xs = [])<|ZF (0≤n)<|ZF (n.toNat*(bytes+1)≤Z1)<|some []
noncomputable def ZlK (bytes:Nat):List V→Option LL
 | [.l xs, .i n] => ZlR bytes xs n
 | _ => none
noncomputable def Zm1 (e:TypeId) (bytes:Nat):Fun where
 args:=[.c (.own true e),.c (.int .i64)]
 res:=[.c (.own true e)]
 g:=ZlK bytes
def Zit (P:Program) (e:TypeId) (bytes:Nat):Bool:=
 match P.info? e with
 | some i => (i.bytes == bytes && !Zg P e) && decide (0 < i.size) && (match i.zero with | some z => z.cells.size == i.size | none => false)
 | none => false
theorem ZjX {cargs:List Value} (hl:cargs.length≤2) (h:cargs.getD 1 undef≠undef):cargs.toArray = #[cargs.getD 0 undef,cargs.getD 1 undef]:=by
 match cargs,hl,h with
 | [], _, h => exact (h rfl).elim
 | [_], _, h => exact (h rfl).elim
 | [_, _], _, _ => rfl
 | _ :: _ :: _ :: _, hl, _ => simp at hl
theorem Zkt {ρ:Ren} {e:TypeId} {bytes:Nat} {f:FuncId} (L:Go.Proofs.Lays8.n4 P ρ) (hc:Zit P e bytes=true) (he:ρ.t 25=e) (hρ:ρ.f 4=f) (hcall:Callable P f):(Zm1 e bytes).Ok P f:=by
 unfold Zit at hc
 split at hc
 case h_2=>cases hc
 rename_i inf hinf
 simp only [Bool.and_eq_true,beq_iff_eq,decide_eq_true_eq,Bool.not_eq_true'] at hc
 obtain ⟨⟨⟨hb,hnm⟩,hpos⟩,hz⟩:=hc
 split at hz
 case h_2=>cases hz
 rename_i z hzero
 simp only [beq_iff_eq] at hz
 have hce:P.cellsOf e=inf.size:=Zx hinf
 intro vs r h
 have h:ZlK bytes vs=some r:=h
 unfold ZlK at h
 split at h
 case h_2=>cases h
 rename_i xs n _
 obtain ⟨h0,h⟩:=Js h
 obtain ⟨h1,h⟩:=Js h
 obtain ⟨h2,h⟩:=Js h
 cases h
 subst h0
 show Jw P f [.own true e [],.val (.int .i64 n)] (.own true e []) [.dead,.dead]
 refine WO true (args:=[.own true e [],.val (.int .i64 n)]) hcall hnm fun w lim X cargs hl hrel hdist hsize=>?_
 have r0:ZP P w lim true e [] (cargs.getD 0 undef) (X 0 0):=hrel 0
 have r1:=arg_int (hrel 1)
 rw [ZjX hl (by rw [r1];simp [undef]),r1]
 obtain ⟨p,rfl⟩:∃ p:Nat,n=p:=⟨n.toNat,by omega⟩
 rw [Int.toNat_natCast] at h2
 have hp:p≤1099511627776:=by
  have:p*1≤p*(bytes+1):=Nat.mul_le_mul_left _ (by omega)
  unfold Z1 at h2
  omega
 have hpb:p*bytes≤1099511627776:=by
  have:p*bytes≤p*(bytes+1):=Nat.mul_le_mul_left _ (by omega)
  unfold Z1 at h2
  omega
 have hform:∃ base c,∃ cs:List Value,cargs.getD 0 undef = .slice base 0 c∧c≤maxLen∧cs.length=c*inf.size∧(base=none→c=0)∧(∀ a,base=some a→∀ j v,cs[j]? = some v→w.cell? (a.add j)=some v):=by
  rcases r0.noMap hnm with ⟨us,hr,_⟩ | ⟨_,_,a,hv⟩
  ·rcases hr.2 with ⟨hv,hn⟩ | ⟨g,cap,cur,hv,_,hg,hnc,hcm,hcs,_⟩
   ·exact ⟨none,0,[],by rw [hv],by decide,by simp,fun _=>rfl,fun a h=>by cases h⟩
   ·refine ⟨_,cap,cur.toList,hv,hcm,by rw [Array.length_toList,hcs,hce],(fun h=>by simp at h),fun a ha j v hj=>?_⟩
    obtain rfl:=Option.some.inj ha
    rw [Jq,Zr hg]
    simpa using hj
  ·exact ⟨_,0,[],hv,by decide,by simp,fun _=>rfl,fun a _ j v hj=>by simp at hj⟩
 obtain ⟨base,c,cs,hv,hcm,hcl,hnil,hcell⟩:=hform
 by_cases hroom:0+p≤c
 ·rw [hv,← hρ]
  refine (Go.Proofs.Any8.slices_Grow_room L base 0 c p w (Nat.zero_le _) (by unfold maxLen at hcm;omega) (by omega) hroom).mono ?_
  rintro e' w' ⟨rfl,rfl⟩
  rw [hv] at r0
  exact ⟨_,lim,X 0 0,rfl,r0,ZI.refl _ _ _,fun b hb=>⟨hsize 0 0 b hb,.inl ⟨⟨0,0,hb⟩,Zff r0 hb⟩⟩⟩
 ·rw [hv,← hρ]
  subst he
  refine (Go.Proofs.Any8.slices_Grow_grow L inf z hinf hzero hpos base 0 c p cs w (Nat.zero_le _) (by omega) (by rw [hb,Nat.zero_add];omega) (by omega) hcl hnil hcell).mono ?_
  rintro e' w' ⟨rfl,rfl⟩
  have hge:=grownCap_ge w (0+p) c (ρ.t 25)
  have hle:=grownCap_le_maxLen w (0+p) c (ρ.t 25) (by unfold maxLen;omega)
  obtain ⟨G,hG⟩:∃ G,G=grownCap w (0+p) c (ρ.t 25):=⟨_,rfl⟩
  rw [← hG] at hge hle ⊢
  obtain ⟨R,hR⟩:∃ R,R=cs.toArray++Builtin.zeroCells z.cells (0+p-c)++Builtin.zeroCells z.cells (G-(0+p)):=⟨_,rfl⟩
  rw [← hR]
  have hs:R.size=G*inf.size:=by
   rw [hR]
   simp only [Array.size_append,List.size_toArray,size_zeroCells,hz,hcl,← Nat.add_mul]
   congr 1
   omega
  have s0:=Yd w.drew lim R (ρ.t 25) 0 (fun x=>∃ i j,X i j=some x)
  refine ⟨_,fun x=>if x=w.heap.size then 0 else lim x,some w.heap.size,rfl,?_,⟨s0.os,s0.tape,s0.output,s0.size,s0.frz,s0.blk,s0.ext⟩,fun b' hb'=>?_⟩
  ·exact K2 (P:=P) (xs:=[]) (b:=w.heap.size) (cap:=G) (Yo w.drew R (ρ.t 25)) (if_pos rfl) (Nat.zero_le _) hle (by rw [hs,hce]) (fun x hx=>by cases hx) (fun x hx=>by cases hx) fun j z u hz _=>by simp at hz
  ·cases hb'
   refine ⟨by simp,.inr (Nat.le_refl _)⟩
end Go.AM
end

section
set_option linter.unusedVariables false
set_option linter.unusedSimpArgs false
namespace Go.AM
variable {P:Program}
noncomputable def ZhL (xs:LL):Option Unit:=ZF (xs = [])<|some ()
noncomputable def Zbb:List V→Option Unit
 | [.l xs] => ZhL xs
 | _ => none
noncomputable def ZeY:Fun where
 args:=[.c (.slice 1)]
 res:=[]
 g:=Zbb
theorem ZfX {f:FuncId} (hcall:Callable P f) (h:∀ (p:Option Addr) (cap:Nat) (w:World),Calls P f #[.slice p 0 cap] w fun e w'=>e = .returned (.tuple #[])∧w'=w):ZeY.Ok P f:=by
 intro vs r hg
 have hg:Zbb vs=some r:=hg
 unfold Zbb at hg
 split at hg
 case h_2=>cases hg
 rename_i xs _
 obtain ⟨h0,_⟩:=Js hg
 subst h0
 show Jw P f [.slice false 1 []] (.tuple []) [.dead]
 refine ⟨hcall,by decide,fun w lim X cargs hl hrel hd hs hX=>?_⟩
 have hl1:cargs.length≤1:=by simp at hl;omega
 have h1:Rep w lim (.slice false 1 []) (cargs.getD 0 undef):=hrel 0
 have hv:∃ p cap,cargs.getD 0 undef = .slice p 0 cap:=by
  generalize cargs.getD 0 undef=v at h1
  cases h1 with
  | sliceN => exact ⟨_, _, rfl⟩
  | sliceE _ => exact ⟨_, _, rfl⟩
  | sliceC => exact ⟨_, _, rfl⟩
 obtain ⟨p,cap,hv⟩:=hv
 have hc:cargs.toArray = #[.slice p 0 cap]:=by
  match cargs,hl1,hv with
  | [], _, hv => exact absurd hv (by simp [undef])
  | [v], _, hv => rw [show v = .slice p 0 cap from hv]
  | _ :: _ :: _, hl1, _ => simp at hl1
 rw [hc]
 refine (h p cap w).mono ?_
 rintro e' w' ⟨rfl,rfl⟩
 have hat:∀ i,ZG ([.dead]++[AV.tuple []]) i=if i=1 then .tuple [] else .dead:=fun i=>by
  match i with
  | 0 => rfl
  | 1 => rfl
  | i + 2 => rfl
 refine ⟨_,lim,fun _ _=>none,rfl,ZI.refl _ _ _,rfl,fun i=>?_,fun d k d' k' b h1 _=>(by cases h1),fun i k b h1=>(by cases h1),fun i h1=>?_,fun i k e1 xs1 hi=>?_,fun k e1 xs1 b m1 m2=>?_⟩
 ·rw [hat]
  by_cases hi:i=1
  ·subst hi
   rw [if_pos rfl]
   exact ⟨[],rfl,rfl,fun j c u hj _=>by simp at hj⟩
  ·rw [if_neg hi]
   trivial
 ·rw [hat] at h1
  split at h1<;>simp [AV.isG] at h1
 ·exfalso
  have hdead:ZG [AV.dead] i = .dead:=by
   match i with
   | 0 => rfl
   | i + 1 => rfl
  rw [hdead] at hi
  cases k<;>cases hi
 ·exfalso
  cases k with
  | zero => cases m1
  | succ k => simp [ZQ] at m1
end Go.AM
end

section
namespace Go.Proofs.Ytigknndkmlhmfaa
open Go Go.Proofs Go.Shelf
def ZhN:Go.Shelf.Ren:=⟨fun | 5=>45 | 8=>72 | 7=>71 | 19=>86 | 20=>87 | 10=>77 | 11=>78 | 12=>79 | 13=>80 | 14=>81 | 15=>82 | 16=>83 | 17=>84 | 18=>85 | 30=>89 | 31=>90 | 32=>91 | 33=>92 | 34=>93 | 35=>94 | 40=>95 | n=>n,fun | 23=>24 | 25=>3 | 3=>3 | 32=>107 | 22=>24 | 0=>0 | 44=>120 | 46=>44 | 4=>4 | 36=>113 | 35=>112 | 41=>76 | 5=>5 | 9=>9 | 53=>123 | 57=>127 | 63=>129 | 64=>109 | n=>n,fun | n=>n⟩
theorem Zj3:Go.Proofs.SlLaysM.n5 Try.prog ZhN:={
 mixed:=by kernel_rfl
 f5:=⟨Try.f45.name,by decide,Try.func45.trans (congrArg some (by kernel_rfl))⟩
 f7:=⟨Try.f71.name,by decide,Try.func71.trans (congrArg some (by kernel_rfl))⟩
 f8:=Try.func72.trans (congrArg some (by kernel_rfl))
 f10:=⟨Try.f77.name,by decide,Try.func77.trans (congrArg some (by kernel_rfl))⟩
 f11:=⟨Try.f78.name,by decide,Try.func78.trans (congrArg some (by kernel_rfl))⟩
 f12:=⟨Try.f79.name,by decide,Try.func79.trans (congrArg some (by kernel_rfl))⟩
 f13:=⟨Try.f80.name,by decide,Try.func80.trans (congrArg some (by kernel_rfl))⟩
 f14:=⟨Try.f81.name,by decide,Try.func81.trans (congrArg some (by kernel_rfl))⟩
 f15:=⟨Try.f82.name,by decide,Try.func82.trans (congrArg some (by kernel_rfl))⟩
 f16:=⟨Try.f83.name,by decide,Try.func83.trans (congrArg some (by kernel_rfl))⟩
 f17:=⟨Try.f84.name,by decide,Try.func84.trans (congrArg some (by kernel_rfl))⟩
 f18:=⟨Try.f85.name,by decide,Try.func85.trans (congrArg some (by kernel_rfl))⟩
 f19:=Try.func86.trans (congrArg some (by kernel_rfl))
 f20:=Try.func87.trans (congrArg some (by kernel_rfl))
 f30:=⟨Try.f89.name,by decide,Try.func89.trans (congrArg some (by kernel_rfl))⟩
 f31:=Try.func90.trans (congrArg some (by kernel_rfl))
 f32:=Try.func91.trans (congrArg some (by kernel_rfl))
 f33:=⟨Try.f92.name,by decide,Try.func92.trans (congrArg some (by kernel_rfl))⟩
 f34:=⟨Try.f93.name,by decide,Try.func93.trans (congrArg some (by kernel_rfl))⟩
 f35:=⟨Try.f94.name,by decide,Try.func94.trans (congrArg some (by kernel_rfl))⟩
 f40:=⟨Try.f95.name,by decide,Try.func95.trans (congrArg some (by kernel_rfl))⟩
 t0:=Try.underlying0
 a0:=Try.isAgg0
 z0:=Try.sizeOf0
 v0:=Try.zeroValue0
 t3:=Try.underlying3
 a3:=Try.isAgg3
 z3:=Try.sizeOf3
 v3:=Try.zeroValue3
 t4:=Try.underlying4
 a4:=Try.isAgg4
 z4:=Try.sizeOf4
 v4:=Try.zeroValue4
 t5:=Try.underlying5
 a5:=Try.isAgg5
 z5:=Try.sizeOf5
 v5:=Try.zeroValue5
 t9:=Try.underlying9
 a9:=Try.isAgg9
 z9:=Try.sizeOf9
 v9:=Try.zeroValue9
 t22:=Try.underlying24
 a22:=Try.isAgg24
 z22:=Try.sizeOf24
 v22:=Try.zeroValue24
 t23:=Try.underlying24
 a23:=Try.isAgg24
 z23:=Try.sizeOf24
 v23:=Try.zeroValue24
 t25:=Try.underlying3
 a25:=Try.isAgg3
 z25:=Try.sizeOf3
 v25:=Try.zeroValue3
 t32:=Try.underlying107
 a32:=Try.isAgg107
 z32:=Try.sizeOf107
 v32:=Try.zeroValue107
 t35:=Try.underlying112
 a35:=Try.isAgg112
 z35:=Try.sizeOf112
 v35:=Try.zeroValue112
 t36:=Try.underlying113
 a36:=Try.isAgg113
 z36:=Try.sizeOf113
 v36:=Try.zeroValue113
 t41:=Try.underlying76
 a41:=Try.isAgg76
 z41:=Try.sizeOf76
 v41:=Try.zeroValue76
 t44:=Try.underlying120
 a44:=Try.isAgg120
 z44:=Try.sizeOf120
 v44:=Try.zeroValue120
 t46:=Try.underlying44
 a46:=Try.isAgg44
 z46:=Try.sizeOf44
 v46:=Try.zeroValue44
 t53:=Try.underlying123
 a53:=Try.isAgg123
 z53:=Try.sizeOf123
 v53:=Try.zeroValue123
 t57:=Try.underlying127
 a57:=Try.isAgg127
 z57:=Try.sizeOf127
 v57:=Try.zeroValue127
 t63:=Try.underlying129
 a63:=Try.isAgg129
 z63:=Try.sizeOf129
 v63:=Try.zeroValue129
 t64:=Try.underlying109
 a64:=Try.isAgg109
 z64:=Try.sizeOf109
 v64:=Try.zeroValue109 }
theorem ZhA (p:Option Addr) (cap:Nat) (w:World):Calls Try.prog 45 #[.slice p 0 cap] w fun e w'=>e = .returned (.tuple #[])∧w'=w:=AnyM.slices_Sort_int_none Zj3 p cap w
end Go.Proofs.Ytigknndkmlhmfaa
end
