import Derived.Test.YtigknndkmlhmfaaM4
import Derived.WalkKit
import Derived.Lib.Walk
import Derived.Lib.SliceRun
import Derived.Lib.AppendZerosOnto
import Derived.Lib.Overlaps
import Derived.Laws.Externs
import Derived.Laws.IdiomCopy
import Derived.Shelf.RegionOpenPlain
import Derived.Shelf.Spec.SlicesGrow
import Derived.Shelf.SortM.Plain
import Derived.Shelf.SortM.SortNone
import Derived.Test.YtigknndkmlhmfaaProg
import Derived.Sort.OwnSortedInts
import Derived.KernelRfl
open Option renaming some→Xa,none→Xe,map_some→Xv
open Bool renaming true→Xb,false→Xc,and_eq_true→Xx,not_eq_true'→UK
open Option.some renaming injEq→Xf,inj→Xp
open List renaming length_map→Xi,mem_of_getElem?→Xj,map_cons→Xk,getElem?_eq_some_iff→Xn,getElem?_eq_getElem→Xq,length_append→Xr,mem_append→Xs,length_take→Xt,mem_cons→Xu,append_assoc→Xw,getElem?_take→Xz,getElem?_append_right→XB,all_eq_true→XC,getElem?_append_left→XE,replicate→XG,getElem?_drop→XI,getElem?_cons_zero→XK,map_nil→XL,length_cons→XN,mem_of_mem_take→XP,mem_of_mem_drop→XS,length_drop→XV,nil_append→X4,cons_append→X6,size_toArray→Uk,getElem?_cons_succ→Ul,length_nil→Up,take_of_length_le→UA,map_toArray→UB,mem_cons_of_mem→UC,flatten_append→UF,take_append_of_le_length→UY,getElem?_toArray→U1,push_toArray→TB,append_toArray→TD
open Nat renaming le_refl→XA,mul_le_mul_right→XF,zero_add→XM,lt_of_lt_of_le→XO,add_mul→XT,zero_le→XZ,add_zero→Ug,add_assoc→Uw,sub_mul→UV,mul_le_mul_left→UW,sub_self→U3
open Int renaming toNat_natCast→XQ
open Array renaming getElem?_eq_some_iff→Ua,toList_append→Ti,getElem?_modify→Tl,replicate_succ→Tz,replicate_zero→TA
open Go.IntKind renaming wrap_i64→U6
set_option linter.unusedVariables false
set_option linter.unusedSimpArgs false
set_option linter.defProp false
namespace Go.AM
@[reducible] def Sh.T:Sh→Type
 | .int _ => Int
 | .bool => Bool
 | .str => ByteArray
 | .slice _ => List (List AV)
 | .own _ _ => List (List AV)
@[reducible] def ShsT:List Sh→Type
 | [] => Unit
 | [s] => s.T
 | s :: t :: r => s.T × ShsT (t :: r)
def Sh.toV:(s:Sh)→s.T→V
 | .int _, z => .i z
 | .bool, z => .b z
 | .str, z => .s z
 | .slice _, z => .l z
 | .own _ _, z => .l z
def Sh.ofV:(s:Sh)→V→Option s.T
 | .int _, .i z => Xa z
 | .bool, .b z => Xa z
 | .str, .s z => Xa z
 | .slice _, .l z => Xa z
 | .own _ _, .l z => Xa z
 | _, _ => Xe
def ZdR:(l:List Sh)→ShsT l→List V
 | [], _ => []
 | [s], x => [s.toV x]
 | s :: t :: r, x => s.toV x.1 :: ZdR (t :: r) x.2
def ZpI:(l:List Sh)→List V→Option (ShsT l)
 | [], [] => Xa ()
 | [], _ :: _ => Xe
 | [s], [v] => s.ofV v
 | [_], [] => Xe
 | [_], _ :: _ :: _ => Xe
 | _ :: _ :: _, [] => Xe
 | s :: t :: r, v :: vs => match s.ofV v, ZpI (t :: r) vs with | some a, Xa b => Xa (a, b) | _, _ => Xe
theorem ZmE {s:Sh} {v:V} {x:s.T} (h:s.ofV v=Xa x):s.toV x=v:=by
 cases s<;>cases v<;>simp [Sh.ofV] at h<;>subst h<;>rfl
theorem ZgI:∀ (l:List Sh) (vs:List V) (x:ShsT l),ZpI l vs=Xa x→ZdR l x=vs
 | [], [], _, _ => rfl
 | [], _ :: _, _, h => by simp [ZpI] at h
 | [s], [v], x, h => by simp only [ZdR, ZmE (show s.ofV v = Xa x from h)]
 | [_], [], _, h => by simp [ZpI] at h
 | [_], _ :: _ :: _, _, h => by simp [ZpI] at h
 | _ :: _ :: _, [], _, h => by simp [ZpI] at h
 | s :: t :: r, v :: vs, x, h => by
  simp only [ZpI] at h
  split at h
  ·rename_i a b ha hb
   simp only [Xf] at h
   subst h
   simp only [ZdR,ZmE ha,ZgI (t::r) vs b hb]
  ·cases h
def Sh.ofE:(s:Sh)→AV→Option s.T
 | .int k, .val (.int k' z) => if k' = k then Xa z else Xe
 | .bool, .val (.bool b) => Xa b
 | .str, .val (.string b) => Xa b
 | .slice s, .slice Xc s' xs => if s' = s then Xa xs else Xe
 | _, _ => Xe
def Zmo:(l:List Sh)→List AV→Option (ShsT l)
 | [], [] => Xa ()
 | [], _ :: _ => Xe
 | [s], [c] => s.ofE c
 | [_], [] => Xe
 | [_], _ :: _ :: _ => Xe
 | _ :: _ :: _, [] => Xe
 | s :: t :: r, c :: cs => match s.ofE c, Zmo (t :: r) cs with | some a, Xa b => Xa (a, b) | _, _ => Xe
theorem Znd {s:Sh} {c:AV} {x:s.T} {n:Nat} {ρ:Nat→V} (h:s.ofE c=Xa x) (hρ:ρ n=s.toV x):(Jq s n).den ρ=c:=by
 unfold Sh.ofE at h
 split at h
 ·split at h
  ·simp only [Xf] at h
   subst h
   rename_i hk
   subst hk
   simp only [Jq,SC.den,IE.den,hρ,Sh.toV,V.int]
  ·cases h
 ·simp only [Xf] at h
  subst h
  simp only [Jq,SC.den,BE.den,hρ,Sh.toV,V.bool]
 ·simp only [Xf] at h
  subst h
  simp only [Jq,SC.den,SE.den,hρ,Sh.toV,V.str]
 ·split at h
  ·simp only [Xf] at h
   subst h
   rename_i hk
   subst hk
   simp only [Jq,SC.den,LE.den,hρ,Sh.toV,V.list]
  ·cases h
 ·cases h
theorem Zji:∀ (l:List Sh) (cs:List AV) (x:ShsT l) (n:Nat) (ρ:Nat→V),Zmo l cs=Xa x→Zi8 ρ n (ZdR l x)→(ZF l n).map (SC.den ρ)=cs
 | [], [], _, _, _, _, _ => rfl
 | [], _ :: _, _, _, _, h, _ => by simp [Zmo] at h
 | [s], [c], x, n, ρ, h, hf => by
  have h0:=hf 0 _ (show (ZdR [s] x)[0]? = Xa (s.toV x) from rfl)
  rw [Ug] at h0
  simp only [ZF,Xk,XL,Znd (show s.ofE c=Xa x from h) h0]
 | [_], [], _, _, _, h, _ => by simp [Zmo] at h
 | [_], _ :: _ :: _, _, _, _, h, _ => by simp [Zmo] at h
 | _ :: _ :: _, [], _, _, _, h, _ => by simp [Zmo] at h
 | s :: t :: r, c :: cs, x, n, ρ, h, hf => by
  simp only [Zmo] at h
  split at h
  ·rename_i a b ha hb
   simp only [Xf] at h
   subst h
   obtain ⟨h0,h1⟩:=Zi8.tail (show Zi8 ρ n (s.toV a::ZdR (t::r) b) from hf)
   have h2:=Zji (t::r) cs b (n+1) ρ hb h1
   rw [ZF,Xk,Znd ha h0,h2]
  ·cases h
def Zm {γ:Type} (p:Prop) [Decidable p] (x:Option γ):Option γ:=if p then x else Xe
theorem JX {γ:Type} {p:Prop} {_:Decidable p} (h:p) (x:Option γ):Zm p x=x:=if_pos h
theorem J5 {γ:Type} {p:Prop} {_:Decidable p} {x:Option γ} {r:γ} (h:Zm p x=Xa r):p∧x=Xa r:=by
 unfold Zm at h
 split at h
 ·exact ⟨‹_›,h⟩
 ·cases h
def ZqV:Value→Value→Bool
 | .int k z, .int k' z' => decide (k = k') && decide (z = z')
 | .bool b, .bool b' => b == b'
 | .string s, .string s' => decide (s = s')
 | _, _ => Xc
theorem ZcB {a b:Value} (h:ZqV a b=Xb):a=b:=by
 unfold ZqV at h
 split at h
 ·simp only [Xx,decide_eq_true_eq] at h
  rw [h.1,h.2]
 ·rw [beq_iff_eq] at h
  rw [h]
 ·rw [decide_eq_true_eq] at h
  rw [h]
 ·cases h
def Zre {α:Type} (q:α→α→Bool):List α→List α→Bool
 | [], [] => Xb
 | a :: aZ, b :: bs => q a b && Zre q aZ bs
 | _, _ => Xc
theorem K7 {α:Type} {q:α→α→Bool} (hq:∀ a b,q a b=Xb→a=b):∀ (aZ bs:List α),Zre q aZ bs=Xb→aZ=bs
 | [], [], _ => rfl
 | [], _ :: _, h => by cases h
 | _ :: _, [], h => by cases h
 | a :: aZ, b :: bs, h => by
  simp only [Zre,Xx] at h
  rw [hq a b h.1,K7 hq aZ bs h.2]
def ZrW:Nat→AV→AV→Bool
 | _, .val a, .val b => ZqV a b
 | n + 1, .slice f s xs, .slice f' s' ys => f == f' && (decide (s = s') && Zre (Zre (ZrW n)) xs ys)
 | _, _, _ => Xc
theorem Zkw:∀ (n:Nat) (a b:AV),ZrW n a b=Xb→a=b:=by
 intro n
 induction n with
 | zero =>
  intro a b h
  unfold ZrW at h
  split at h
  ·rw [ZcB h]
  ·rename_i hn;cases hn
  ·cases h
 | succ n ih =>
  intro a b h
  unfold ZrW at h
  split at h
  ·rw [ZcB h]
  ·rename_i hn
   cases hn
   simp only [Xx,beq_iff_eq,decide_eq_true_eq] at h
   rw [h.1,h.2.1,K7 (fun x y hxy=>K7 ih x y hxy) _ _ h.2.2]
  ·cases h
open Classical in
noncomputable instance decLL:DecidableEq (List (List AV)):=fun a b=>if h:Zre (Zre (ZrW 8)) a b=Xb then isTrue (K7 (fun x y hxy=>K7 (Zkw 8) x y hxy) _ _ h) else propDecidable _
@[reducible] noncomputable def Sh.dec:(s:Sh)→DecidableEq s.T
 | .int _ => inferInstanceAs (DecidableEq Int)
 | .bool => inferInstanceAs (DecidableEq Bool)
 | .str => inferInstanceAs (DecidableEq ByteArray)
 | .slice _ => decLL
 | .own _ _ => decLL
@[reducible] noncomputable def decS:(l:List Sh)→DecidableEq (ShsT l)
 | [] => inferInstanceAs (DecidableEq Unit)
 | [s] => s.dec
 | s :: t :: r => @instDecidableEqProd _ _ s.dec (decS (t :: r))
def ZkL {γ:Type} [d:DecidableEq γ] (l:List (List AV)) (k:Bool→Option γ):Option γ:=
 match l with
 | [] => if k Xb = k Xc then k Xb else Xe
 | _ :: _ => k Xc
theorem ZlN {γ:Type} {d:DecidableEq γ} {l:List (List AV)} {k:Bool→Option γ} {r:γ} (h:ZkL l k=Xa r) (b:Bool) (hb:b=Xb→l = []):k b=Xa r:=by
 unfold ZkL at h
 split at h
 ·split at h
  ·rename_i he
   cases b
   ·rw [← he];exact h
   ·exact h
  ·cases h
 ·cases b
  ·exact h
  ·cases hb rfl
def ZB {γ:Type} (l:List (List AV)) (i:Int) (sh:List Sh) (k:ShsT sh→Option γ):Option γ:=
 if 0≤i then match l[i.toNat]? with | some cs=>(match Zmo sh cs with | some r=>k r | none=>Xe) | none=>Xe else Xe
theorem JS {γ:Type} {l:List (List AV)} {i:Int} {sh:List Sh} {cs:List AV} {r:ShsT sh} (k:ShsT sh→Option γ) (h0:0≤i) (h1:l[i.toNat]? = Xa cs) (h2:Zmo sh cs=Xa r):ZB l i sh k=k r:=by
 simp only [ZB,h0,if_true,h1,h2]
theorem ZkE {γ:Type} {l:List (List AV)} {i:Int} {sh:List Sh} {k:ShsT sh→Option γ} {x:γ} (h:ZB l i sh k=Xa x):0≤i∧∃ cs r,l[i.toNat]? = Xa cs∧Zmo sh cs=Xa r∧k r=Xa x:=by
 unfold ZB at h
 split at h
 ·refine ⟨‹_›,?_⟩
  split at h
  ·split at h
   ·exact ⟨_,_,‹_›,‹_›,h⟩
   ·cases h
  ·cases h
 ·cases h
def ZdF {γ:Type} (F:(List V→Option γ)→List V→Option γ):Nat→List V→Option γ
 | 0 => fun _ => Xe
 | k + 1 => F (ZdF F k)
def J6:Nat:=1208925819614629174706176
inductive AP where
 | c (s : Sh)
 | agg (l : List Sh)
 | box (l : List Sh)
 | gbox (l : List Sh)
 | clo (g : FuncId) (ds : List Nat)
 | ref (j q : Nat)
 | dead
def RSh.sh:RSh→List Sh
 | .c s => [s]
 | .agg l => l
 | .box l => l
 | .aggo l => l
def Yv:List AP→List Sh
 | [] => []
 | .box l :: r => l ++ Yv r
 | .gbox l :: r => l ++ Yv r
 | _ :: r => Yv r
def ZdM (rs:List RSh) (aps:List AP):List Sh:=rs.flatMap RSh.sh++Yv aps
structure Fun where
 args:List AP
 res:List RSh
 g:List V→Option (ShsT (ZdM res args))
def Ka (r:RSh) (us:List V) (j:Nat):AV:=
 match r with
 | .c s => Ky s (vAt us j)
 | .agg l => .agg (Jf l us j)
 | .box l => .box (Jf l us j)
 | .aggo l => .aggo (Jf l us j)
def YJ:List RSh→List V→Nat→List AV
 | [], _, _ => []
 | r :: rs, us, j => Ka r us j :: YJ rs us (j + r.sh.length)
def Kn (rs:List RSh) (us:List V) (j:Nat):AV:=
 match rs with
 | [r] => Ka r us j
 | rs => .tuple (YJ rs us j)
def Jm:List AP→List V→Nat→List AV
 | [], _, _ => []
 | .box l :: r, us, j => .box (Jf l us j) :: Jm r us (j + l.length)
 | .gbox l :: r, us, j => .gbox (Jf l us j) :: Jm r us (j + l.length)
 | _ :: r, us, j => .dead :: Jm r us j
def AP.n:AP→Nat
 | .c _ => 1
 | .agg l => l.length
 | .box l => l.length
 | .gbox l => l.length
 | .clo _ _ => 0
 | .ref _ _ => 0
 | .dead => 0
def Zmb (a:AP) (us:List V) (j:Nat):AV:=
 match a with
 | .c s => Ky s (vAt us j)
 | .agg l => .agg (Jf l us j)
 | .box l => .box (Jf l us j)
 | .gbox l => .gbox (Jf l us j)
 | .clo g ds => .clo g ds
 | .ref j q => .mref j q
 | .dead => .dead
def VF:List AP→List V→Nat→List AV
 | [], _, _ => []
 | a :: r, us, j => Zmb a us j :: VF r us (j + a.n)
def ZfN (rs:List RSh):Nat:=(rs.flatMap RSh.sh).length
def Fun.Ok (P:Program) (f:FuncId) (S:Fun):Prop:=
 ∀ vs r,S.g vs=Xa r→J0 P f (VF S.args vs 0) (Kn S.res (ZdR _ r) 0) (Jm S.args (ZdR _ r) (ZfN S.res))
def ZkY (P:Program):List (FuncId×Fun)→Prop
 | [] => True
 | p :: r => p.2.Ok P p.1 ∧ ZkY P r
def AP.sig:AP→Option (FuncId×List Nat)
 | .clo g ds => Xa (g, ds)
 | .ref j q => Xa (1000000, [j, q])
 | _ => Xe
def SV.sig:SV→Option (FuncId×List Nat)
 | .clo g ds => Xa (g, ds)
 | .mref j q => Xa (1000000, [j, q])
 | _ => Xe
def Zl5:List (FuncId×Fun)→FuncId→List (FuncId×List Nat)→Option Fun
 | [], _, _ => Xe
 | p :: r, f, sg => if p.1 = f ∧ p.2.args.filterMap AP.sig = sg then Xa p.2 else Zl5 r f sg
theorem ZiZ {P:Program} : ∀ {Φ:List (FuncId×Fun)} {f:FuncId} {sg:List (FuncId×List Nat)} {S:Fun},ZkY P Φ→Zl5 Φ f sg=Xa S→S.Ok P f
 | [], _, _, _, _, h => by simp [Zl5] at h
 | p :: r, f, sg, S, ho, h => by
  simp only [Zl5] at h
  split at h
  ·rename_i hp
   simp only [Xf] at h
   obtain ⟨hp,_⟩:=hp
   subst hp
   subst h
   exact ho.1
  ·exact ZiZ ho.2 h
def ZqY (P:Program):Sh→AV→Option V
 | .int k, .val (.int k' z) => if k' = k then Xa (.i z) else Xe
 | .bool, .val (.bool b) => Xa (.b b)
 | .str, .val (.string s) => Xa (.s s)
 | .slice s, .slice _ s' xs => if s' = s then Xa (.l xs) else (match xs with | [] => Xa (.l []) | _ :: _ => Xe)
 | .slice s, .own x e xs => if P.cellsOf e = s then (match x, xs with | false, xs => Xa (.l xs) | true, [] => Xa (.l []) | true, _ :: _ => Xe) else Xe
 | .own x e, .own x' e' xs => if e' = e then (match x, x', xs with | false, Xc, xs => Xa (.l xs) | true, Xb, xs => Xa (.l xs) | _, _, [] => if e < 2097152 then Xa (.l []) else Xe | _, _, _ :: _ => Xe) else Xe
 | .own _ e, .slice Xb _ xs => (match xs with | [] => if e < 2097152 then Xa (.l []) else Xe | _ :: _ => Xe)
 | _, _ => Xe
def Zfn (P:Program):List Sh→List AV→Option (List V)
 | [], [] => Xa []
 | s :: ss, c :: cs => match ZqY P s c, Zfn P ss cs with | some v, Xa vs => Xa (v :: vs) | _, _ => Xe
 | _, _ => Xe
def ZrM (P:Program):AP→AV→Option (List V)
 | .c s, x => (ZqY P s x).map fun v => [v]
 | .agg l, .agg cs => if l.all Sh.imm = Xb then Zfn P l cs else Xe
 | .box l, .box cs => Zfn P l cs
 | .gbox l, .gbox cs => Zfn P l cs
 | .clo g ds, .clo g' ds' => if g' = g ∧ ds' = ds then Xa [] else Xe
 | .ref j q, .mref j' q' => if j' = j ∧ q' = q ∧ q ≠ 0 then Xa [] else Xe
 | .dead, .dead => Xa []
 | _, _ => Xe
def Zdo (P:Program):List AP→List AV→Option (List V)
 | [], [] => Xa []
 | a :: aZ, x :: xs => match ZrM P a x, Zdo P aZ xs with | some vs, Xa us => Xa (vs ++ us) | _, _ => Xe
 | _, _ => Xe
theorem Zk5 {P:Program} {s:Sh} {c:AV} {v:V} (h:ZqY P s c=Xa v):YT P c (Ky s v):=by
 unfold ZqY at h
 split at h
 ·split at h
  ·simp only [Xf] at h;subst h;rename_i hk;subst hk;exact .same (.inl rfl)
  ·cases h
 ·simp only [Xf] at h;subst h;exact .same (.inl rfl)
 ·simp only [Xf] at h;subst h;exact .same (.inl rfl)
 ·split at h
  ·simp only [Xf] at h;subst h;rename_i hk;subst hk;exact .imm
  ·split at h
   ·simp only [Xf] at h;subst h;exact .immN
   ·cases h
 ·split at h
  ·rename_i hk
   subst hk
   split at h
   ·simp only [Xf] at h;subst h;exact .own
   ·simp only [Xf] at h;subst h;exact .ownZ
   ·cases h
  ·cases h
 ·split at h
  ·rename_i hk
   subst hk
   split at h
   ·simp only [Xf] at h;subst h;exact .same (.inr ⟨_,_,_,rfl⟩)
   ·simp only [Xf] at h;subst h;exact .same (.inr ⟨_,_,_,rfl⟩)
   ·split at h
    ·rename_i hlt
     simp only [Xf] at h;subst h;exact .ownN hlt
    ·cases h
   ·cases h
  ·cases h
 ·split at h
  ·split at h
   ·rename_i hlt
    simp only [Xf] at h;subst h;exact .give hlt
   ·cases h
  ·cases h
 ·cases h
theorem ZbV {P:Program} : ∀ (l:List Sh) (cs:List AV) (vs:List V),Zfn P l cs=Xa vs→vs.length=l.length∧cs.length=l.length∧∀ pre post:List V,
  ∀ (i:Nat) (c c':AV),cs[i]? = Xa c→(Jf l (pre++vs++post) pre.length)[i]? = Xa c'→YT P c c'
 | [], [], vs, h => by
  simp only [Zfn,Xf] at h
  subst h
  exact ⟨rfl,rfl,fun _ _ i c c' h=>by simp at h⟩
 | [], _ :: _, _, h => by simp [Zfn] at h
 | _ :: _, [], _, h => by simp [Zfn] at h
 | s :: ss, c :: cs, us, h => by
  simp only [Zfn] at h
  split at h
  ·rename_i v vs hv hvs
   simp only [Xf] at h
   subst h
   obtain ⟨h1,h2,h3⟩:=ZbV (P:=P) ss cs vs hvs
   refine ⟨by simp [h1],by simp [h2],fun pre post i c1 c2 hc1 hc2=>?_⟩
   cases i with
   | zero =>
    simp only [Jf,XK,Xf] at hc1 hc2
    subst hc1
    subst hc2
    rw [Xw,X6,Vt]
    exact Zk5 hv
   | succ i =>
    have:=h3 (pre++[v]) post i c1 c2 (by simpa using hc1)
    simp only [Xw,X6,X4,Xr,XN,Up] at this
    simp only [Jf,Ul,Xw,X6] at hc2
    exact this hc2
  ·cases h
theorem ZqN {P:Program} {a:AP} {x:AV} {vs:List V} (h:ZrM P a x=Xa vs):vs.length=a.n∧((∃ g ds,a = .clo g ds∧x = .clo g ds)∨(∃ j q,a = .ref j q∧x = .mref j q)∨∀ pre post:List V,Y2 P x (Zmb a (pre++vs++post) pre.length)):=by
 unfold ZrM at h
 split at h
 ·cases hd:ZqY P _ x with
  | none => rw [hd] at h; cases h
  | some v =>
   rw [hd] at h
   simp only [Xv,Xf] at h
   subst h
   refine ⟨rfl,.inr<|.inr fun pre post=>?_⟩
   simp only [Zmb,Xw,X6,X4,Vt]
   exact .comp (.cell (Zk5 hd))
 ·rename_i l cs
  split at h
  ·rename_i hi
   obtain ⟨h1,h2,h3⟩:=ZbV (P:=P) _ _ _ h
   exact ⟨h1,.inr<|.inr fun pre post=>.comp (.agg (by rw [h2,JE]) (Vq _ _ _ hi) (h3 pre post))⟩
  ·cases h
 ·obtain ⟨h1,h2,h3⟩:=ZbV (P:=P) _ _ _ h
  exact ⟨h1,.inr<|.inr fun pre post=>.box (by rw [h2,JE]) (h3 pre post)⟩
 ·obtain ⟨h1,h2,h3⟩:=ZbV (P:=P) _ _ _ h
  exact ⟨h1,.inr<|.inr fun pre post=>.gbox (by rw [h2,JE]) (h3 pre post)⟩
 ·split at h
  ·rename_i hh
   simp only [Xf] at h
   subst h
   obtain ⟨rfl,rfl⟩:=hh
   exact ⟨rfl,.inl ⟨_,_,rfl,rfl⟩⟩
  ·cases h
 ·split at h
  ·rename_i hh
   simp only [Xf] at h
   subst h
   obtain ⟨rfl,rfl,_⟩:=hh
   exact ⟨rfl,.inr (.inl ⟨_,_,rfl,rfl⟩)⟩
  ·cases h
 ·simp only [Xf] at h
  subst h
  exact ⟨rfl,.inr<|.inr fun _ _=>.dead⟩
 ·cases h
theorem Zeu:∀ (l:List AP) (us:List V) (j:Nat),(VF l us j).length=l.length
 | [], _, _ => rfl
 | _ :: ss, us, j => by simp [VF, Zeu ss us]
theorem Zjt {P:Program} : ∀ (aZ:List AP) (xs:List AV) (vs:List V),Zdo P aZ xs=Xa vs→xs.length=aZ.length∧∀ pre post:List V,
  ∀ (i:Nat) (c c':AV),xs[i]? = Xa c→(VF aZ (pre++vs++post) pre.length)[i]? = Xa c'→(∃ g ds,aZ[i]? = Xa (.clo g ds)∧c = .clo g ds∧c' = .clo g ds)∨(∃ j q,aZ[i]? = Xa (.ref j q)∧c = .mref j q∧c' = .mref j q)∨Y2 P c c'
 | [], [], _, _ => ⟨rfl, fun _ _ i c c' h => by simp at h⟩
 | [], _ :: _, _, h => by simp [Zdo] at h
 | _ :: _, [], _, h => by simp [Zdo] at h
 | a :: aZ, x :: xs, ws, h => by
  simp only [Zdo] at h
  split at h
  ·rename_i vs us hv hus
   simp only [Xf] at h
   subst h
   obtain ⟨h1,h2⟩:=ZqN (P:=P) hv
   obtain ⟨h3,h4⟩:=Zjt (P:=P) aZ xs us hus
   refine ⟨by simp [h3],fun pre post i c1 c2 hc1 hc2=>?_⟩
   cases i with
   | zero =>
    simp only [VF,XK,Xf] at hc1 hc2
    subst hc1
    subst hc2
    rcases h2 with ⟨g,ds,rfl,rfl⟩ | ⟨j,q,rfl,rfl⟩ | h2
    ·exact .inl ⟨g,ds,rfl,rfl,rfl⟩
    ·exact .inr (.inl ⟨j,q,rfl,rfl,rfl⟩)
    ·have:=h2 pre (us++post)
     exact .inr (.inr (by simpa [Xw] using this))
   | succ i =>
    have:=h4 (pre++vs) post i c1 c2 (by simpa using hc1)
    rw [Xr,h1] at this
    simp only [VF,Ul] at hc2
    refine this ?_
    simpa [Xw] using hc2
  ·cases h
def WY (aZ:List AP):Bool:=aZ.all fun a=>match a with | .clo _ ds=>ds.all (fun d=>match aZ[d]? with | some (.gbox _)=>Xb | _=>Xc) | .ref j q=>(match aZ[j]? with | some (.gbox l)=>(HP.gbox l).isPl q | _=>Xc) | _=>Xb
theorem ZdB:∀ (aZ:List AP) (us:List V) (j i:Nat) (a:AP),aZ[i]? = Xa a→∃ k,(VF aZ us j)[i]? = Xa (Zmb a us k)
 | [], _, _, _, _, h => by simp at h
 | b :: aZ, us, j, 0, a, h => by
  simp only [XK,Xf] at h
  subst h
  exact ⟨j,rfl⟩
 | b :: aZ, us, j, i + 1, a, h => by
  obtain ⟨k,hk⟩:=ZdB aZ us (j+b.n) i a (by simpa using h)
  exact ⟨k,by simpa [VF] using hk⟩
theorem ZhI {P:Program} {aZ:List AP} {xs:List AV} {vs:List V} (hc:WY aZ=Xb) (h:Zdo P aZ xs=Xa vs):VG P xs (VF aZ vs 0):=by
 obtain ⟨h1,h2⟩:=Zjt (P:=P) aZ xs vs h
 refine ⟨by rw [h1,Zeu],fun i c c' hx hc'=>?_⟩
 rcases h2 [] [] i c c' hx (by simpa using hc') with ⟨g,ds,k1,rfl,rfl⟩ | ⟨j,q,k1,rfl,rfl⟩ | hw
 case inr.inl=>
  refine .inr (.inr ⟨j,q,rfl,rfl,?_⟩)
  unfold WY at hc
  rw [XC] at hc
  have h3:=hc _ (Xj k1)
  simp only at h3
  split at h3
  ·rename_i l hl
   obtain ⟨k,hk⟩:=ZdB aZ vs 0 j _ hl
   simp only [ZW,hk]
   exact Zfm h3 vs k
  ·cases h3
 ·refine .inr (.inl ⟨g,ds,rfl,rfl,fun d hd=>?_⟩)
  unfold WY at hc
  rw [XC] at hc
  have h3:=hc _ (Xj k1)
  simp only at h3
  rw [XC] at h3
  have h4:=h3 d hd
  split at h4
  ·rename_i l hl
   obtain ⟨k,hk⟩:=ZdB aZ vs 0 d _ hl
   simp only [ZW,hk]
   rfl
  ·cases h4
 ·exact .inl hw
def Zkh (P:Program) (a:AP) (x:AV):AV:=
 match a,x with
 | .c (.slice _), .own Xb e xs => .own (Zk P e) e xs
 | .c (.own Xc _), .own Xb e xs => .own (Zk P e) e xs
 | _, x => x
def ZgZ (P:Program):List AP→List AV→List AV
 | a :: aZ, x :: xs => Zkh P a x :: ZgZ P aZ xs
 | _, xs => xs
theorem Zcn (P:Program) (a:AP) (x:AV):Zkh P a x=x∨∃ e xs,x = .own Xb e xs∧Zkh P a x = .own Xc e xs∧Zk P e=Xc:=by
 unfold Zkh
 split
 ·rename_i e xs
  cases h:Zk P e with
  | true => exact .inl rfl
  | false => exact .inr ⟨e, xs, rfl, rfl, h⟩
 ·rename_i e xs
  cases h:Zk P e with
  | true => exact .inl rfl
  | false => exact .inr ⟨e, xs, rfl, rfl, h⟩
 ·exact .inl rfl
theorem Zh3 (pre post:List AV) (x:AV) (i:Nat):ZW (pre++x::post) i=if i=pre.length then x else ZW (pre++.dead::post) i:=by
 unfold ZW
 by_cases hi:i=pre.length
 ·subst hi
  rw [if_pos rfl,XB (XA _),U3]
  rfl
 ·rw [if_neg hi]
  by_cases hlt:i < pre.length
  ·rw [XE hlt,XE hlt]
  ·rw [XB (by omega),XB (by omega)]
   obtain ⟨j,hj⟩:∃ j,i-pre.length=j+1:=⟨i-pre.length-1,by omega⟩
   rw [hj,Ul,Ul]
theorem Zlx {P:Program} {w:World} {lim:Nat→Nat} {e:TypeId} {xs:List (List AV)} {v:Value} (hnm:Zk P e=Xc) (h:ZY P w lim Xb e xs v Xe):ZY P w lim Xc e xs v Xe:=by
 rcases h.noMap hnm with ⟨us,h1,h2,h3,h4,h5,h6⟩ | h
 ·exact .inl ⟨us,h1,h2,fun b hb=>(by cases hb),h4,h5,h6⟩
 ·exact .inr (.inl h)
theorem J0.freeze1 {P:Program} {f:FuncId} {pre post:List AV} {e:TypeId} {xs:List (List AV)} {res:AV} {outs:List AV} (h:J0 P f (pre++.own Xc e xs::post) res outs)
  (hn:∀ x∈pre++post,∀ d,¬ Jl x d 0) (hnm:Zk P e=Xc):J0 P f (pre++.own Xb e xs::post) res outs:=by
 have hll:(pre++AV.own Xb e xs::post).length=(pre++AV.own Xc e xs::post).length:=by simp
 refine ⟨h.1,by rw [hll];exact h.2.1,fun w lim X cargs hcl hrel hdist hsize hfar=>?_⟩
 have hat:∀ (b:Bool) (i:Nat),ZW (pre++.own b e xs::post) i=if i=pre.length then .own b e xs else ZW (pre++.dead::post) i:=fun b i=>Zh3 pre post _ i
 have hnr:∀ i d,i≠pre.length→¬ Jl (ZW (pre++.dead::post) i) d 0:=by
  intro i d hi hr
  have hx:ZW (pre++.dead::post) i = .dead∨ZW (pre++.dead::post) i∈pre++post:=by
   unfold ZW
   cases hx:(pre++AV.dead::post)[i]? with
   | none => exact .inl rfl
   | some x =>
    have hm:=Xj hx
    rw [Xs,Xu] at hm
    rcases hm with hm | rfl | hm
    ·exact .inr (List.mem_append_left _ hm)
    ·exact .inl rfl
    ·exact .inr (List.mem_append_right _ hm)
  rcases hx with hx | hx
  ·rw [hx] at hr
   rcases hr with hr | ⟨_,hr⟩ <;> cases hr
  ·exact hn _ hx d hr
 have h0:=hrel pre.length
 rw [hat,if_pos rfl] at h0
 have h0':ZY P w lim Xb e xs (cargs.getD pre.length undef) (X pre.length 0):=h0
 obtain ⟨lim1,he,hk,hown⟩:∃ lim1,Ext w lim w lim1∧(∀ b,X pre.length 0≠Xa b→lim1 b=lim b)∧ZY P w lim1 Xc e xs (cargs.getD pre.length undef) (X pre.length 0):=by
  cases hb:X pre.length 0 with
  | none => rw [hb] at h0'; exact ⟨lim, Ext.refl _ _, fun _ _ => rfl, Zlx hnm h0'⟩
  | some b0 =>
   rw [hb] at h0'
   have hl0:lim b0=0:=by
    rcases h0'.noMap hnm with ⟨us,_,_,h3,_⟩ | ⟨_,h,_⟩
    ·rw [h3 b0 rfl];rfl
    ·cases h
   have hext:Ext w lim w (VX lim b0 (xs.length*P.cellsOf e)):=fun b _=>by
    refine ⟨?_,fun o u _ hu=>hu⟩
    unfold VX
    split
    ·rename_i h;rw [h,hl0];exact XZ _
    ·exact XA _
   exact ⟨_,hext,fun b hne=>if_neg fun e=>hne (by rw [e]),Zdv h0' hnm hext⟩
 have hrel1:∀ i,ZZ P w lim1 X (ZW (pre++.own Xc e xs::post)) i (ZW (pre++.own Xc e xs::post) i) (cargs.getD i undef):=by
  intro i
  by_cases hi:i=pre.length
  ·subst hi
   rw [hat,if_pos rfl]
   exact hown
  ·have h1:=hrel i
   have hne:ZW (pre++.own Xc e xs::post) i=ZW (pre++.own Xb e xs::post) i:=by rw [hat,hat,if_neg hi,if_neg hi]
   rw [hne]
   refine ZZ.chg (h1.mono he (fun k b hb=>⟨rfl,hk b fun e=>hi (hdist i k pre.length 0 b hb e).1⟩) fun d' k b hr _=>.of rfl) rfl (fun d' cs hd=>⟨⟨cs,?_⟩,rfl⟩) (fun d' hg=>⟨?_,rfl⟩) fun d' k hr=>?_
   ·rw [hat] at hd ⊢
    split at hd
    ·cases hd
    ·rename_i hd'
     rw [if_neg hd'];exact hd
   ·rw [hat] at hg ⊢
    split at hg
    ·cases hg
    ·rename_i hd'
     rw [if_neg hd'];exact hg
   ·rw [hat,if_neg hi] at hr
    refine ⟨?_,rfl⟩
    rw [hat,hat]
    by_cases hd:d'=pre.length
    ·rw [if_pos hd,if_pos hd]
     cases k with
     | zero => exact (hnr i d' hi hr).elim
     | succ k => intro _ _ h; cases h
    ·rw [if_neg hd,if_neg hd]
     exact KF.refl _ _
 have hcnt:(pre++AV.own Xb e xs::post).countP AV.isG=(pre++AV.own Xc e xs::post).countP AV.isG:=by
  simp [List.countP_append,List.countP_cons,AV.isG]
 refine (h.2.2 w lim1 X cargs (by rw [← hcnt,← hll];exact hcl) hrel1 hdist hsize (by rw [← hll];exact hfar)).mono ?_
 rintro e' w' ⟨v,lim',X',he',hst,hol,hr,hd,hin,hgh,hnl,hnr⟩
 refine ⟨v,lim',X',he',⟨hst.os,hst.tape,hst.output,hst.size,hst.frz,fun b hb hn'=>?_,he.trans hst.ext (XA _)⟩,by rw [hol,hll],fun i=>by rw [hll];exact hr i,hd,hin,fun i hi=>?_,hnl,by rw [hll];exact hnr⟩
 ·obtain ⟨k1,k2⟩:=hst.blk b hb hn'
  exact ⟨k1,k2.trans (hk b fun e=>hn' ⟨_,_,e⟩)⟩
 ·obtain ⟨m1,m2⟩:=hgh i hi
  refine ⟨?_,m2⟩
  rw [hat] at m1 ⊢
  split at m1
  ·cases m1
  ·rename_i hi'
   rw [if_neg hi'];exact m1
theorem Zd9 {P:Program} {d k:Nat} : ∀ (aZ:List AP) (xs:List AV),(∀ x∈ZgZ P aZ xs,¬ Jl x d k)→∀ x∈xs,¬ Jl x d k
 | [], xs, h => fun x hx => h x (by cases xs <;> exact hx)
 | _ :: _, [], _ => fun _ hx => by cases hx
 | a :: aZ, y :: ys, h => fun x hx => by
  rcases Xu.1 hx with rfl | hx
  ·rcases Zcn P a x with e | ⟨_,_,rfl,_⟩
   ·have:=h (Zkh P a x) (List.mem_cons_self ..)
    rwa [e] at this
   ·rintro (h | ⟨_,h⟩)<;>cases h
  ·exact Zd9 aZ ys (fun z hz=>h z (UC _ hz)) x hx
theorem J0.freeze {P:Program} {f:FuncId} {res:AV} {outs:List AV} : ∀ (aZ:List AP) (xs pre:List AV),J0 P f (pre++ZgZ P aZ xs) res outs→(∀ x∈pre++ZgZ P aZ xs,∀ d,¬ Jl x d 0)→J0 P f (pre++xs) res outs
 | [], xs, pre, h, _ => by cases xs <;> exact h
 | _ :: _, [], pre, h, _ => h
 | a :: aZ, x :: xs, pre, h, hn => by
  have h1:=J0.freeze aZ xs (pre++[Zkh P a x]) (by simpa [ZgZ] using h) (by simpa [ZgZ] using hn)
  rw [Xw,List.singleton_append] at h1
  rcases Zcn P a x with e | ⟨e,ys,rfl,e',hnm⟩
  ·rwa [e] at h1
  ·rw [e'] at h1
   refine h1.freeze1 (fun y hy d=>?_) hnm
   rcases Xs.1 hy with hy | hy
   ·exact hn y (List.mem_append_left _ hy) d
   ·exact Zd9 aZ xs (fun z hz=>hn z (List.mem_append_right _ (UC _ hz)) d) y hy
theorem Znh {P:Program} {a:AP} {x:AV} {vs:List V} (h:ZrM P a x=Xa vs) (d:Nat):¬ Jl x d 0:=by
 rintro (rfl | ⟨_,rfl⟩)<;>cases a
 case inl.ref j q=>
  simp only [ZrM] at h
  split at h
  ·rename_i hh;exact hh.2.2 hh.2.1.symm
  ·cases h
 all_goals simp [ZrM,ZqY] at h
 all_goals (rename_i s;cases s<;>simp [ZqY] at h)
theorem Zd2 {P:Program} : ∀ (aZ:List AP) (xs:List AV) (vs:List V),Zdo P aZ xs=Xa vs→∀ x∈xs,∀ d,¬ Jl x d 0
 | _, [], _, _ => fun _ hx => by cases hx
 | [], _ :: _, _, h => by simp [Zdo] at h
 | a :: aZ, x :: xs, ws, h => by
  simp only [Zdo] at h
  split at h
  ·rename_i vs us hv hus
   intro y hy d
   rcases Xu.1 hy with rfl | hy
   ·exact Znh hv d
   ·exact Zd2 aZ xs us hus y hy d
  ·cases h
def ZrA {γ:Type} (P:Program) (S:Fun) (aZ:List AV) (k:List V→Option γ):Option γ:=
 match Zdo P S.args (ZgZ P S.args aZ) with
 | some vs => (S.g vs).bind fun r => k (ZdR _ r)
 | none => Xe
theorem Zkr {γ:Type} {S:Fun} {aZ:List AV} {k:List V→Option γ} {x:γ} {P:Program} (h:ZrA P S aZ k=Xa x):∃ vs r,Zdo P S.args (ZgZ P S.args aZ)=Xa vs∧S.g vs=Xa r∧k (ZdR _ r)=Xa x:=by
 unfold ZrA at h
 split at h
 ·rename_i vs hvs
  rw [Option.bind_eq_some_iff] at h
  obtain ⟨r,h1,h2⟩:=h
  exact ⟨vs,r,hvs,h1,h2⟩
 ·cases h
def Zr6 (s:Sh) (x:SC) (m:Nat):Bool:=
 match s,x with
 | .int k, .int k' (.var a) => decide (k' = k) && decide (a = m)
 | .bool, .bool (.var a) => decide (a = m)
 | .str, .str (.var a) => decide (a = m)
 | .slice s, .slice Xc s' (.var a) => decide (s' = s) && decide (a = m)
 | _, _ => Xc
def ZjV:List Sh→List SC→Nat→Bool
 | [], [], _ => Xb
 | s :: ss, c :: cs, m => Zr6 s c m && ZjV ss cs (m + 1)
 | _, _, _ => Xc
def Ztg (r:RSh) (x:TC) (m:Nat):Bool:=
 match r,x with
 | .c s, .c x => Zr6 s x m
 | .c (.own x e), .own x' e' (.var a) => (decide (e' = e) && decide (a = m)) && (x' == x)
 | .agg l, .agg cs => ZjV l cs m
 | _, _ => Xc
def Zka:List RSh→List TC→Nat→Bool
 | [], [], _ => Xb
 | r :: rs, x :: xs, m => Ztg r x m && Zka rs xs (m + r.sh.length)
 | _, _, _ => Xc
def Zs8:SV→Option TC
 | .c x => Xa (.c x)
 | .agg cs => Xa (.agg cs)
 | .own x e l => Xa (.own x e l)
 | _ => Xe
def Ztt (s:Sh) (x:BC) (m:Nat):Bool:=
 match s,x with
 | s, .c x => Zr6 s x m
 | .own x e, .own x' e' (.var a) => (decide (e' = e) && decide (a = m)) && (x' == x)
 | _, _ => Xc
def ZfI:List Sh→List BC→Nat→Bool
 | [], [], _ => Xb
 | s :: ss, c :: cs, m => Ztt s c m && ZfI ss cs (m + 1)
 | _, _, _ => Xc
def ZtP (rs:List RSh) (x:SV) (m:Nat):Bool:=
 match rs with
 | [r] => match r, x with | .box l, .box cs => ZfI l cs m | .aggo l, .aggo cs => ZfI l cs m | _, _ => match Zs8 x with | some y => Ztg r y m | none => Xc
 | rs => match x with | .tuple vs => Zka rs vs m | _ => Xc
def VL:List AP→List SV→Nat→Bool
 | [], [], _ => Xb
 | .box l :: r, .box cs :: xs, m => ZfI l cs m && VL r xs (m + l.length)
 | .gbox l :: r, .gbox cs :: xs, m => ZfI l cs m && VL r xs (m + l.length)
 | .c _ :: r, .dead :: xs, m => VL r xs m
 | .agg _ :: r, .dead :: xs, m => VL r xs m
 | .clo _ _ :: r, .dead :: xs, m => VL r xs m
 | .ref _ _ :: r, .dead :: xs, m => VL r xs m
 | .dead :: r, .dead :: xs, m => VL r xs m
 | _, _, _ => Xc
section
variable {ρ:Nat→V} {n:Nat} {us:List V}
theorem Za5 (j:Nat) (h:j < us.length):bind ρ n us (n+j)=vAt us j:=by
 unfold bind vAt
 rw [if_neg (by omega),show n+j-n=j by omega,Xq h]
 rfl
theorem ZfK {s:Sh} {x:SC} {j:Nat} (h:Zr6 s x (n+j)=Xb) (hj:j < us.length):x.den (bind ρ n us)=Ky s (vAt us j):=by
 unfold Zr6 at h
 split at h
 ·simp only [Xx,decide_eq_true_eq] at h
  obtain ⟨rfl,rfl⟩:=h
  simp only [SC.den,IE.den,Za5 j hj,Ky]
 ·simp only [decide_eq_true_eq] at h
  subst h
  simp only [SC.den,BE.den,Za5 j hj,Ky]
 ·simp only [decide_eq_true_eq] at h
  subst h
  simp only [SC.den,SE.den,Za5 j hj,Ky]
 ·simp only [Xx,decide_eq_true_eq] at h
  obtain ⟨rfl,rfl⟩:=h
  simp only [SC.den,LE.den,Za5 j hj,Ky]
 ·cases h
theorem ZgF:∀ (l:List Sh) (cs:List SC) (j:Nat),ZjV l cs (n+j)=Xb→j+l.length≤us.length→cs.map (SC.den (bind ρ n us))=Jf l us j
 | [], [], _, _, _ => rfl
 | [], _ :: _, _, h, _ => by simp [ZjV] at h
 | _ :: _, [], _, h, _ => by simp [ZjV] at h
 | s :: ss, c :: cs, j, h, hl => by
  simp only [ZjV,Xx] at h
  simp only [XN] at hl
  rw [Xk,Jf,ZfK h.1 (by omega),ZgF ss cs (j+1) (by rw [← Uw];exact h.2) (by omega)]
theorem Zjk {r:RSh} {x:TC} {j:Nat} (h:Ztg r x (n+j)=Xb) (hj:j+r.sh.length≤us.length):x.den (bind ρ n us)=Ka r us j:=by
 unfold Ztg at h
 split at h
 ·exact ZfK h (by simp [RSh.sh] at hj;omega)
 ·simp only [Xx,decide_eq_true_eq,beq_iff_eq] at h
  obtain ⟨⟨rfl,rfl⟩,rfl⟩:=h
  have hj':j < us.length:=by simp [RSh.sh] at hj;omega
  simp only [TC.den,LE.den,Za5 j hj',Ka,Ky]
 ·simp only [TC.den,Ka,ZgF _ _ j h hj]
 ·cases h
theorem Zf1:∀ (rs:List RSh) (xs:List TC) (j:Nat),Zka rs xs (n+j)=Xb→j+(rs.flatMap RSh.sh).length≤us.length→xs.map (TC.den (bind ρ n us))=YJ rs us j
 | [], [], _, _, _ => rfl
 | [], _ :: _, _, h, _ => by simp [Zka] at h
 | _ :: _, [], _, h, _ => by simp [Zka] at h
 | r :: rs, x :: xs, j, h, hl => by
  simp only [Zka,Xx] at h
  simp only [List.flatMap_cons,Xr] at hl
  rw [Xk,YJ,Zjk h.1 (by omega),Zf1 rs xs (j+r.sh.length) (by rw [← Uw];exact h.2) (by omega)]
theorem ZiE {x:SV} {y:TC} (h:Zs8 x=Xa y) (ρ:Nat→V):x.den ρ=y.den ρ:=by
 unfold Zs8 at h
 split at h<;>simp at h<;>subst h<;>rfl
theorem Zo1 {s:Sh} {x:BC} {j:Nat} (h:Ztt s x (n+j)=Xb) (hj:j < us.length):x.den (bind ρ n us)=Ky s (vAt us j):=by
 unfold Ztt at h
 split at h
 ·exact ZfK h hj
 ·simp only [Xx,decide_eq_true_eq,beq_iff_eq] at h
  obtain ⟨⟨rfl,rfl⟩,rfl⟩:=h
  simp only [BC.den,LE.den,Za5 j hj,Ky]
 ·cases h
theorem VS:∀ (l:List Sh) (cs:List BC) (j:Nat),ZfI l cs (n+j)=Xb→j+l.length≤us.length→cs.map (BC.den (bind ρ n us))=Jf l us j
 | [], [], _, _, _ => rfl
 | [], _ :: _, _, h, _ => by simp [ZfI] at h
 | _ :: _, [], _, h, _ => by simp [ZfI] at h
 | s :: ss, c :: cs, j, h, hl => by
  simp only [ZfI,Xx] at h
  simp only [XN] at hl
  rw [Xk,Jf,Zo1 h.1 (by omega),VS ss cs (j+1) (by rw [← Uw];exact h.2) (by omega)]
theorem ZoY {rs:List RSh} {x:SV} (h:ZtP rs x n=Xb) (hl:ZfN rs≤us.length):x.den (bind ρ n us)=Kn rs us 0:=by
 unfold ZtP at h
 split at h
 ·split at h
  ·rename_i l cs
   have h1:cs.map (BC.den (bind ρ n us))=Jf l us 0:=VS l cs 0 h (by simpa [ZfN,RSh.sh] using hl)
   simp only [SV.den,Kn,Ka,h1]
  ·rename_i l cs
   have h1:cs.map (BC.den (bind ρ n us))=Jf l us 0:=VS l cs 0 h (by simpa [ZfN,RSh.sh] using hl)
   simp only [SV.den,Kn,Ka,h1]
  ·split at h
   ·rename_i y hy
    rw [ZiE hy]
    exact Zjk (j:=0) h (by simpa [ZfN] using hl)
   ·cases h
 ·rename_i hne
  split at h
  ·rename_i vs
   have:Kn rs us 0 = .tuple (YJ rs us 0):=by
    unfold Kn
    split
    ·exact (hne _ rfl).elim
    ·rfl
   rw [this]
   simp only [SV.den,Zf1 rs vs 0 h (by simpa [ZfN] using hl)]
  ·cases h
theorem Y7:∀ (aps:List AP) (xs:List SV) (j:Nat),VL aps xs (n+j)=Xb→j+(Yv aps).length≤us.length→xs.map (SV.den (bind ρ n us))=Jm aps us j
 | [], [], _, _, _ => rfl
 | [], _ :: _, _, h, _ => by simp [VL] at h
 | .box l :: r, x :: xs, j, h, hl => by
  cases x<;>simp [VL] at h
  rename_i cs
  simp only [Yv,Xr] at hl
  have h1:cs.map (BC.den (bind ρ n us))=Jf l us j:=VS l cs j h.1 (by omega)
  simp only [Xk,Jm,SV.den,h1,Y7 r xs (j+l.length) (by rw [← Uw];exact h.2) (by omega)]
 | .gbox l :: r, x :: xs, j, h, hl => by
  cases x<;>simp [VL] at h
  rename_i cs
  simp only [Yv,Xr] at hl
  have h1:cs.map (BC.den (bind ρ n us))=Jf l us j:=VS l cs j h.1 (by omega)
  simp only [Xk,Jm,SV.den,h1,Y7 r xs (j+l.length) (by rw [← Uw];exact h.2) (by omega)]
 | .c _ :: r, x :: xs, j, h, hl => by
  cases x<;>simp [VL] at h
  simp only [Yv] at hl
  simp only [Xk,Jm,SV.den,Y7 r xs j h hl]
 | .agg _ :: r, x :: xs, j, h, hl => by
  cases x<;>simp [VL] at h
  simp only [Yv] at hl
  simp only [Xk,Jm,SV.den,Y7 r xs j h hl]
 | .clo _ _ :: r, x :: xs, j, h, hl => by
  cases x<;>simp [VL] at h
  simp only [Yv] at hl
  simp only [Xk,Jm,SV.den,Y7 r xs j h hl]
 | .ref _ _ :: r, x :: xs, j, h, hl => by
  cases x<;>simp [VL] at h
  simp only [Yv] at hl
  simp only [Xk,Jm,SV.den,Y7 r xs j h hl]
 | .dead :: r, x :: xs, j, h, hl => by
  cases x<;>simp [VL] at h
  simp only [Yv] at hl
  simp only [Xk,Jm,SV.den,Y7 r xs j h hl]
 | a :: _, [], _, h, _ => by cases a <;> simp [VL] at h
end
theorem Zi3:∀ (l:List Sh) (x:ShsT l),(ZdR l x).length=l.length
 | [], _ => rfl
 | [_], _ => rfl
 | _ :: t :: r, x => by simp [ZdR, Zi3 (t :: r) x.2]
def Zta (P:Program) (r:RSh) (x:TC):Option (List VE):=
 match r,x with
 | .c s, .c x => (Zp2 s x).map fun v => [v]
 | .c s, .own x e l => (ZcP P s x e l).map fun v => [v]
 | .agg l, .agg cs => if l.all Sh.imm = Xb then Zgk l cs else Xe
 | _, _ => Xe
def Zis (P:Program):List RSh→List TC→Option (List VE)
 | [], [] => Xa []
 | r :: rs, x :: xs => match Zta P r x, Zis P rs xs with | some v, Xa vs => Xa (v ++ vs) | _, _ => Xe
 | _, _ => Xe
def ZtI (P:Program) (rs:List RSh) (x:SV):Option (List VE):=
 match rs with
 | [r] => match r, x with | .box l, .box cs => ZbB P l cs | .aggo l, .aggo cs => ZbB P l cs | _, _ => match Zs8 x with | some y => Zta P r y | none => Xe
 | rs => match x with | .tuple vs => Zis P rs vs | _ => Xe
def Vy (P:Program):List AP→List SV→Option (List VE)
 | [], [] => Xa []
 | .box l :: r, .box cs :: xs => match ZbB P l cs, Vy P r xs with | some v, Xa vs => Xa (v ++ vs) | _, _ => Xe
 | .gbox l :: r, .gbox cs :: xs => match ZbB P l cs, Vy P r xs with | some v, Xa vs => Xa (v ++ vs) | _, _ => Xe
 | .c _ :: r, .dead :: xs => Vy P r xs
 | .agg _ :: r, .dead :: xs => Vy P r xs
 | .clo _ _ :: r, .dead :: xs => Vy P r xs
 | .ref _ _ :: r, .dead :: xs => Vy P r xs
 | .dead :: r, .dead :: xs => Vy P r xs
 | _, _ => Xe
def Zhu (P:Program) (aps:List AP) (rs:List RSh) (x:SV) (os:List SV):Option (List VE):=
 match ZtI P rs x,Vy P aps os with
 | some vs, Xa us => Xa (vs ++ us)
 | _, _ => Xe
section
variable {P:Program} {ρ:Nat→V}
theorem ZmV {r:RSh} {x:TC} {vs:List VE} (h:Zta P r x=Xa vs):vs.length=r.sh.length∧∀ pre post:List V,ZbD P (x.den ρ) (Ka r (pre++vs.map (VE.den ρ)++post) pre.length):=by
 unfold Zta at h
 split at h
 ·cases hd:Zp2 _ _ with
  | none => rw [hd] at h; cases h
  | some v =>
   rw [hd] at h
   simp only [Xv,Xf] at h
   subst h
   refine ⟨rfl,fun pre post=>?_⟩
   simp only [Ka,Xk,XL,Xw,X6,X4,Vt]
   exact .cell (Zfl hd)
 ·cases hd:ZcP P _ _ _ _ with
  | none => rw [hd] at h; cases h
  | some v =>
   rw [hd] at h
   simp only [Xv,Xf] at h
   subst h
   refine ⟨rfl,fun pre post=>?_⟩
   simp only [Ka,Xk,XL,Xw,X6,X4,Vt]
   exact .cell (ZcO hd)
 ·split at h
  ·rename_i hi
   obtain ⟨h1,h2,h3⟩:=ZeM (P:=P) (ρ:=ρ) _ _ _ h
   exact ⟨h1,fun pre post=>.agg (by rw [Xi,h2,JE]) (Vq _ _ _ hi) (h3 pre post)⟩
  ·cases h
 ·cases h
theorem Zbv:∀ (rs:List RSh) (us:List V) (j:Nat),(YJ rs us j).length=rs.length
 | [], _, _ => rfl
 | _ :: ss, us, j => by simp [YJ, Zbv ss us]
theorem ZiV:∀ (rs:List RSh) (xs:List TC) (vs:List VE),Zis P rs xs=Xa vs→vs.length=(rs.flatMap RSh.sh).length∧xs.length=rs.length∧∀ pre post:List V,
  ∀ (i:Nat) (c c':AV),(xs.map (TC.den ρ))[i]? = Xa c→(YJ rs (pre++vs.map (VE.den ρ)++post) pre.length)[i]? = Xa c'→ZbD P c c'
 | [], [], vs, h => by
  simp only [Zis,Xf] at h
  subst h
  exact ⟨rfl,rfl,fun _ _ i c c' h=>by simp at h⟩
 | [], _ :: _, _, h => by simp [Zis] at h
 | _ :: _, [], _, h => by simp [Zis] at h
 | r :: rs, x :: xs, us, h => by
  simp only [Zis] at h
  split at h
  ·rename_i v vs hv hvs
   simp only [Xf] at h
   subst h
   obtain ⟨h1,h2⟩:=ZmV (P:=P) (ρ:=ρ) hv
   obtain ⟨h3,h4,h5⟩:=ZiV rs xs vs hvs
   refine ⟨by simp [h1,h3],by simp [h4],fun pre post i c1 c2 hc1 hc2=>?_⟩
   cases i with
   | zero =>
    simp only [YJ,Xk,XK,Xf] at hc1 hc2
    subst hc1
    subst hc2
    have:=h2 pre (vs.map (VE.den ρ)++post)
    simpa [Xw] using this
   | succ i =>
    have:=h5 (pre++v.map (VE.den ρ)) post i c1 c2 (by simpa using hc1)
    rw [Xr,Xi,h1] at this
    simp only [YJ,Ul] at hc2
    refine this ?_
    simpa [Xw] using hc2
  ·cases h
theorem ZqA {rs:List RSh} {x:SV} {vs:List VE} (h:ZtI P rs x=Xa vs):vs.length=ZfN rs∧∀ post:List V,Y2 P (x.den ρ) (Kn rs (vs.map (VE.den ρ)++post) 0):=by
 unfold ZtI at h
 split at h
 ·split at h
  ·rename_i l cs
   obtain ⟨h1,h2,h3⟩:=Vo (P:=P) (ρ:=ρ) _ _ _ h
   refine ⟨by simpa [ZfN,RSh.sh] using h1,fun post=>?_⟩
   have:=h3 [] post
   exact .box (by rw [Xi,h2,JE]) (by simpa [Kn,Ka] using this)
  ·rename_i l cs
   obtain ⟨h1,h2,h3⟩:=Vo (P:=P) (ρ:=ρ) _ _ _ h
   refine ⟨by simpa [ZfN,RSh.sh] using h1,fun post=>?_⟩
   have:=h3 [] post
   exact .aggo (by rw [Xi,h2,JE]) (by simpa [Kn,Ka] using this)
  ·split at h
   ·rename_i y hy
    obtain ⟨h1,h2⟩:=ZmV (P:=P) (ρ:=ρ) h
    refine ⟨by simpa [ZfN] using h1,fun post=>?_⟩
    rw [ZiE hy]
    have:=h2 [] post
    exact .comp (by simpa [Kn] using this)
   ·cases h
 ·rename_i hne
  split at h
  ·rename_i ys
   obtain ⟨h1,h2,h3⟩:=ZiV (P:=P) (ρ:=ρ) _ _ _ h
   refine ⟨h1,fun post=>?_⟩
   have:∀ us,Kn rs us 0 = .tuple (YJ rs us 0):=by
    intro us
    unfold Kn
    split
    ·exact (hne _ rfl).elim
    ·rfl
   rw [this]
   refine .tuple (by rw [Xi,h2,Zbv]) fun i c c' hc hc'=>h3 [] post i c c' hc ?_
   simpa using hc'
  ·cases h
theorem ZcQ:∀ (aps:List AP) (us:List V) (j:Nat),(Jm aps us j).length=aps.length
 | [], _, _ => rfl
 | a :: r, us, j => by cases a <;> simp [Jm, ZcQ r us]
theorem KI:∀ (aps:List AP) (xs:List SV) (vs:List VE),Vy P aps xs=Xa vs→vs.length=(Yv aps).length∧xs.length=aps.length∧∀ pre post:List V,
  ∀ (i:Nat) (c c':AV),(xs.map (SV.den ρ))[i]? = Xa c→(Jm aps (pre++vs.map (VE.den ρ)++post) pre.length)[i]? = Xa c'→Y2 P c c'
 | [], [], vs, h => by
  simp only [Vy,Xf] at h
  subst h
  exact ⟨rfl,rfl,fun _ _ i c c' h=>by simp at h⟩
 | [], _ :: _, _, h => by simp [Vy] at h
 | a :: _, [], _, h => by cases a <;> simp [Vy] at h
 | .box l :: r, x :: xs, us, h => by
  cases x<;>simp only [Vy,reduceCtorEq] at h
  split at h
  ·rename_i cs v vs hv hvs
   simp only [Xf] at h
   subst h
   obtain ⟨h1,h2,h3⟩:=Vo (P:=P) (ρ:=ρ) _ _ _ hv
   obtain ⟨h4,h5,h6⟩:=KI r xs vs hvs
   refine ⟨by simp [h1,h4,Yv],by simp [h5],fun pre post i c1 c2 hc1 hc2=>?_⟩
   cases i with
   | zero =>
    simp only [Jm,Xk,XK,Xf,SV.den] at hc1 hc2
    subst hc1
    subst hc2
    have:=h3 pre (vs.map (VE.den ρ)++post)
    exact .box (by rw [Xi,h2,JE]) (by simpa [Xw] using this)
   | succ i =>
    have:=h6 (pre++v.map (VE.den ρ)) post i c1 c2 (by simpa using hc1)
    rw [Xr,Xi,h1] at this
    simp only [Jm,Ul] at hc2
    refine this ?_
    simpa [Xw] using hc2
  ·cases h
 | .gbox l :: r, x :: xs, us, h => by
  cases x<;>simp only [Vy,reduceCtorEq] at h
  split at h
  ·rename_i cs v vs hv hvs
   simp only [Xf] at h
   subst h
   obtain ⟨h1,h2,h3⟩:=Vo (P:=P) (ρ:=ρ) _ _ _ hv
   obtain ⟨h4,h5,h6⟩:=KI r xs vs hvs
   refine ⟨by simp [h1,h4,Yv],by simp [h5],fun pre post i c1 c2 hc1 hc2=>?_⟩
   cases i with
   | zero =>
    simp only [Jm,Xk,XK,Xf,SV.den] at hc1 hc2
    subst hc1
    subst hc2
    have:=h3 pre (vs.map (VE.den ρ)++post)
    exact .gbox (by rw [Xi,h2,JE]) (by simpa [Xw] using this)
   | succ i =>
    have:=h6 (pre++v.map (VE.den ρ)) post i c1 c2 (by simpa using hc1)
    rw [Xr,Xi,h1] at this
    simp only [Jm,Ul] at hc2
    refine this ?_
    simpa [Xw] using hc2
  ·cases h
 | .c s :: r, x :: xs, us, h => by
  cases x<;>simp only [Vy,reduceCtorEq] at h
  exact retOs_dead (a:=.c s) r xs us (KI r xs us h) (fun _ _=>rfl) rfl
 | .agg l :: r, x :: xs, us, h => by
  cases x<;>simp only [Vy,reduceCtorEq] at h
  exact retOs_dead (a:=.agg l) r xs us (KI r xs us h) (fun _ _=>rfl) rfl
 | .clo g ds :: r, x :: xs, us, h => by
  cases x<;>simp only [Vy,reduceCtorEq] at h
  exact retOs_dead (a:=.clo g ds) r xs us (KI r xs us h) (fun _ _=>rfl) rfl
 | .ref g ds :: r, x :: xs, us, h => by
  cases x<;>simp only [Vy,reduceCtorEq] at h
  exact retOs_dead (a:=.ref g ds) r xs us (KI r xs us h) (fun _ _=>rfl) rfl
 | .dead :: r, x :: xs, us, h => by
  cases x<;>simp only [Vy,reduceCtorEq] at h
  exact retOs_dead (a:=.dead) r xs us (KI r xs us h) (fun _ _=>rfl) rfl
where
 retOs_dead {a:AP} (r:List AP) (xs:List SV) (us:List VE) (h:us.length=(Yv r).length∧xs.length=r.length∧∀ pre post:List V,
   ∀ (i:Nat) (c c':AV),(xs.map (SV.den ρ))[i]? = Xa c→(Jm r (pre++us.map (VE.den ρ)++post) pre.length)[i]? = Xa c'→Y2 P c c')
   (ha:∀ vs j,Jm (a::r) vs j = .dead::Jm r vs j) (hs:Yv (a::r)=Yv r):us.length=(Yv (a::r)).length∧(SV.dead::xs).length=(a::r).length∧∀ pre post:List V,
   ∀ (i:Nat) (c c':AV),((SV.dead::xs).map (SV.den ρ))[i]? = Xa c→(Jm (a::r) (pre++us.map (VE.den ρ)++post) pre.length)[i]? = Xa c'→Y2 P c c':=by
  obtain ⟨h4,h5,h6⟩:=h
  refine ⟨by rw [hs];exact h4,by simp [h5],fun pre post i c1 c2 hc1 hc2=>?_⟩
  rw [ha] at hc2
  cases i with
  | zero =>
   simp only [Xk,XK,Xf] at hc1 hc2
   subst hc2
   exact .dead
  | succ i => exact h6 pre post i c1 c2 (by simpa using hc1) (by simpa using hc2)
theorem ZkM {aps:List AP} {rs:List RSh} {x:SV} {os:List SV} {vs:List VE} (h:Zhu P aps rs x os=Xa vs) :
  VG P (os.map (SV.den ρ)++[x.den ρ]) (Jm aps (vs.map (VE.den ρ)) (ZfN rs)++[Kn rs (vs.map (VE.den ρ)) 0]):=by
 unfold Zhu at h
 split at h
 ·rename_i a b ha hb
  simp only [Xf] at h
  subst h
  obtain ⟨h1,h2⟩:=ZqA (ρ:=ρ) ha
  obtain ⟨h3,h4,h5⟩:=KI (P:=P) (ρ:=ρ) _ _ _ hb
  have hlo:(os.map (SV.den ρ)).length=(Jm aps ((a++b).map (VE.den ρ)) (ZfN rs)).length:=by rw [Xi,h4,ZcQ]
  refine ⟨by simp only [Xr,hlo,XN,Up],fun i c c' hc hc'=>?_⟩
  by_cases hi:i < (os.map (SV.den ρ)).length
  ·rw [XE hi] at hc
   rw [XE (by rw [← hlo];exact hi)] at hc'
   have:=h5 (a.map (VE.den ρ)) [] i c c' hc
   rw [Xi,h1] at this
   exact .inl (this (by simpa using hc'))
  ·rw [XB (by omega)] at hc
   rw [XB (by rw [← hlo];omega),← hlo] at hc'
   have h0:i-(os.map (SV.den ρ)).length=0:=by
    have:=(Xn.1 hc).1
    simp only [XN,Up] at this
    omega
   rw [h0] at hc hc'
   simp only [XK,Xf] at hc hc'
   subst hc
   subst hc'
   rw [List.map_append]
   exact .inl (h2 _)
 ·cases h
end
def Zjd {γ:Type} (A:Nat→List V→Option γ) (n:Nat) (B:List V→Option γ):Nat→List V→Option γ:=fun i vs=>if i=n then B vs else A i vs
noncomputable def STree.run (P:Program) (Φ:List (FuncId×Fun)) (aps:List AP) (rs:List RSh):STree→(Nat→List V→Option (ShsT (ZdM rs aps)))→(Nat→V)→Option (ShsT (ZdM rs aps))
 | .stuck _, _, _ => Xe
 | .branch b t e, A, ρ => if b.den ρ = Xb then t.run P Φ aps rs A ρ else e.run P Φ aps rs A ρ
 | .req p t, A, ρ => @Zm _ (p.den ρ) (p.decDen ρ) (t.run P Φ aps rs A ρ)
 | .elem l i sh n t, A, ρ => ZB (l.den ρ) (i.den ρ) sh fun r => t.run P Φ aps rs A (bind ρ n (ZdR sh r))
 | .nilq l n t, A, ρ => @ZkL _ (decS _) (l.den ρ) fun b => t.run P Φ aps rs A (bind ρ n [.b b])
 | .call f args res outs n _ t, A, ρ =>
  match Zl5 Φ f (args.filterMap SV.sig) with
  | some S => if ZtP S.res res n = Xb ∧ VL S.args outs (n + ZfN S.res) = Xb ∧ WY S.args = Xb then ZrA P S (args.map (SV.den ρ)) fun us => t.run P Φ aps rs A (bind ρ n us) else Xe
  | none => Xe
 | .loop lv init n t, A, ρ => ZdF (fun rec vs => t.run P Φ aps rs (Zjd A lv rec) (bind Zhe n vs)) J6 (init.map (VE.den ρ))
 | .again lv vals, A, ρ => A lv (vals.map (VE.den ρ))
 | .ret res outs, _, ρ => match Zhu P aps rs res outs with | some vs => ZpI _ (vs.map (VE.den ρ)) | none => Xe
theorem ZtS {p:Nat→Prop} (h:∃ k,p k):∃ k,p k∧∀ j,j < k→¬ p j:=by
 obtain ⟨k,hk⟩:=h
 induction k using Nat.strongRecOn with
 | _ k ih =>
  by_cases hj:∃ j,j < k∧p j
  ·obtain ⟨j,h1,h2⟩:=hj
   exact ih j h1 h2
  ·exact ⟨k,hk,fun j h1 h2=>hj ⟨j,h1,h2⟩⟩
section
variable {P:Program} {Φ:List (FuncId×Fun)} {aps:List AP} {rs:List RSh}
theorem Zbs (hΦ:ZkY P Φ) {r:ShsT (ZdM rs aps)} {R:AV→List AV→Prop} (hR:∀ x os,VG P (os++[x]) (Jm aps (ZdR _ r) (ZfN rs)++[Kn rs (ZdR _ r) 0])→R x os) :
  ∀ (t:STree) (A':Nat→List V→Option (ShsT (ZdM rs aps))) (A:Nat→List V→Prop) (ρ:Nat→V),(∀ lv vs,A' lv vs=Xa r→A lv vs)→t.run P Φ aps rs A' ρ=Xa r→t.wp P R A ρ
 | .stuck _, _, _, _, _, h => by simp [STree.run] at h
 | .branch b t e, A', A, ρ, hA, h => by
  simp only [STree.run] at h
  refine ⟨fun hb=>?_,fun hb=>?_⟩
  ·rw [if_pos hb] at h
   exact Zbs hΦ hR t A' A ρ hA h
  ·rw [if_neg (by rw [hb];exact Bool.false_ne_true)] at h
   exact Zbs hΦ hR e A' A ρ hA h
 | .req p t, A', A, ρ, hA, h => by
  obtain ⟨h1,h2⟩:=J5 (show @Zm _ (p.den ρ) (p.decDen ρ) (t.run P Φ aps rs A' ρ)=Xa r from h)
  exact ⟨h1,Zbs hΦ hR t A' A ρ hA h2⟩
 | .elem l i sh n t, A', A, ρ, hA, h => by
  obtain ⟨h0,cs,x,h1,h2,h3⟩:=ZkE (show ZB (l.den ρ) (i.den ρ) sh (fun r=>t.run P Φ aps rs A' (bind ρ n (ZdR sh r)))=Xa r from h)
  refine ⟨ZdR sh x,h0,?_,Zbs hΦ hR t A' A _ hA h3⟩
  rw [h1,Zji sh cs x n _ h2 (Zi8.bind ρ n _)]
 | .nilq l n t, A', A, ρ, hA, h => fun b hb => Zbs hΦ hR t A' A _ hA (ZlN (show @ZkL _ (decS _) (l.den ρ) (fun b => t.run P Φ aps rs A' (bind ρ n [.b b])) = Xa r from h) b hb)
 | .call f args res outs n sh t, A', A, ρ, hA, h => by
  simp only [STree.run] at h
  split at h
  ·rename_i S hS
   split at h
   ·rename_i hfit
    obtain ⟨vs,x,h1,h2,h3⟩:=Zkr h
    have hlen:=Zi3 _ x
    have hl2:(ZdM S.res S.args).length=ZfN S.res+(Yv S.args).length:=by simp [ZdM,ZfN]
    refine ⟨ZdR _ x,?_,Zbs hΦ hR t A' A _ hA h3⟩
    rw [ZoY hfit.1 (by omega),Y7 S.args outs (ZfN S.res) hfit.2.1 (by omega)]
    exact J0.freeze S.args _ [] ((ZiZ hΦ hS vs x h2).stronger (ZhI hfit.2.2 h1)) (Zd2 _ _ _ h1)
   ·cases h
  ·cases h
 | .loop lv init n t, A', A, ρ, hA, h => by
  let F:=fun (rec:List V→Option (ShsT (ZdM rs aps))) vs=>t.run P Φ aps rs (Zjd A' lv rec) (bind Zhe n vs)
  have hF:ZdF F J6 (init.map (VE.den ρ))=Xa r:=h
  have hm:∀ vs,∃ m:Nat,(∃ k,ZdF F k vs=Xa r)→ZdF F m vs=Xa r∧∀ j,ZdF F j vs=Xa r→m≤j:=by
   intro vs
   by_cases hk:∃ k,ZdF F k vs=Xa r
   ·obtain ⟨m,h1,h2⟩:=ZtS hk
    exact ⟨m,fun _=>⟨h1,fun j hj=>Nat.le_of_not_lt fun hlt=>h2 j hlt hj⟩⟩
   ·exact ⟨0,fun h=>(hk h).elim⟩
  obtain ⟨m,hm⟩:=Classical.axiomOfChoice hm
  refine ⟨fun vs=>∃ k,ZdF F k vs=Xa r,m,⟨J6,hF⟩,fun vs _ hk=>?_⟩
  obtain ⟨h1,h2⟩:=hm vs hk
  cases hmv:m vs with
  | zero => rw [hmv] at h1; cases h1
  | succ j =>
   rw [hmv] at h1
   refine Zbs hΦ hR t (Zjd A' lv (ZdF F j)) _ _ (fun lv' vs' hv=>?_) h1
   unfold Zjd at hv
   unfold ZsH
   split at hv
   ·rename_i he
    rw [if_pos he]
    refine ⟨⟨j,hv⟩,?_⟩
    have:=(hm vs' ⟨j,hv⟩).2 j hv
    omega
   ·rename_i he
    rw [if_neg he]
    exact hA lv' vs' hv
 | .again lv vals, A', A, ρ, hA, h => hA lv _ h
 | .ret res outs, A', A, ρ, hA, h => by
  simp only [STree.run] at h
  split at h
  ·rename_i vs hvs
   refine hR _ _ ?_
   rw [ZgI _ _ _ h]
   exact ZkM hvs
  ·cases h
end
abbrev LL:Type:=List (List AV)
abbrev E0:LL:=[]
def ZsT (l:List (List AV)):Prop:=∀ e∈l,∃ n:Int,0≤n∧n≤255∧e = [.val (.int .u8 n)]
def ZV (a b:List (List AV)) (k:Nat):Prop:=(a.length+b.length)*(k+1)≤Jc
def Ztp (a:Int) (k:Nat):Prop:=0≤a∧a.toNat*(k+1)≤Jc
instance (l:List (List AV)):Decidable (ZsT l):=Zjq l
instance (a b:List (List AV)) (k:Nat):Decidable (ZV a b k):=inferInstanceAs (Decidable ((a.length+b.length)*(k+1)≤Jc))
instance (a:Int) (k:Nat):Decidable (Ztp a k):=inferInstanceAs (Decidable (0≤a∧a.toNat*(k+1)≤Jc))
instance (l:List (List AV)):Decidable (l≠[]):=Zlg l
theorem CQ:(∀ a b:Int,(cop .lss a b=Xb)=(a < b))∧(∀ a b:Int,(cop .lss a b=Xc)=(b≤a))∧(∀ a b:Int,(cop .leq a b=Xb)=(a≤b))∧(∀ a b:Int,(cop .leq a b=Xc)=(b < a))∧
  (∀ a b:Int,(cop .gtr a b=Xb)=(b < a))∧(∀ a b:Int,(cop .gtr a b=Xc)=(a≤b))∧(∀ a b:Int,(cop .geq a b=Xb)=(b≤a))∧(∀ a b:Int,(cop .geq a b=Xc)=(a < b))∧
  (∀ a b:Int,(cop .eql a b=Xb)=(a=b))∧(∀ a b:Int,(cop .eql a b=Xc)=(a≠b))∧(∀ a b:Int,(cop .neq a b=Xb)=(a≠b))∧(∀ a b:Int,(cop .neq a b=Xc)=(a=b))∧
  (∀ b:Bool,(¬b=Xb)=(b=Xc))∧(∀ b:Bool,(¬b=Xc)=(b=Xb))∧(∀ b:Bool,((!b)=Xb)=(b=Xc))∧(∀ b:Bool,((!b)=Xc)=(b=Xb))∧
  (∀ a b:Bool,((a&&b)=Xb)=(a=Xb∧b=Xb))∧(∀ a b:Bool,((a||b)=Xb)=(a=Xb∨b=Xb))∧(∀ {p:Prop} [Decidable p],(decide p=Xb)=p)∧(∀ {p:Prop} {_:Decidable p},decide p=Xc↔¬p)∧
  ((Xc=Xb)=False)∧((Xb=Xc)=False)∧(∀ {α β:Type} (a:α) (f:α→Option β),(Xa a).bind f=f a)∧(∀ {α:Type} (x y:α),(Xa x=Xa y)=(x=y))∧
  (∀ p:Prop,(False↔p) = ¬p)∧(∀ p:Prop,(True↔p)=p)∧(∀ p:Prop,(p↔False) = ¬p)∧(∀ p:Prop,(p↔True)=p):=
 ⟨Zm3,Zm1,ZmK,Zk4,Zny,Zmd,Zml,Zm7,Znq,Zmp,ZmT,Zm8,Bool.not_eq_true,Bool.not_eq_false,UK,Bool.not_eq_false',Xx,Bool.or_eq_true,
  @decide_eq_true_eq,@decide_eq_false_iff_not,Bool.false_eq_true,Bool.true_eq_false,@Option.bind_some,@Option.some.injEq,false_iff,true_iff,iff_false,iff_true⟩
def STree.next:STree→STree
 | .branch _ t _ => t
 | .req _ t => t
 | .elem _ _ _ _ t => t
 | .nilq _ _ t => t
 | .call _ _ _ _ _ _ t => t
 | .loop _ _ _ t => t
 | t => t
def STree.other:STree→STree
 | .branch _ _ e => e
 | t => t
def STree.nexts:Nat→STree→STree
 | 0, t => t
 | k + 1, t => STree.nexts k t.next
def STree.go:STree→List Nat→STree
 | t, [] => t
 | t, 0 :: p => t.next.go p
 | t, 1 :: p => t.other.go p
 | t, k :: p => (STree.nexts k t).go p
@[reducible] def d2 {α β γ:Type} (r:α×β×γ):γ:=r.2.2
@[reducible] def d4 {α β γ δ ε:Type} (r:α×β×γ×δ×ε):ε:=r.2.2.2.2
@[reducible] def d8 {a b c d e f g h i:Type} (r:a×b×c×d×e×f×g×h×i):i:=d4 (d4 r)
@[reducible] def d16 {a b c d e f g h i j k l m n o p q:Type} (r:a×b×c×d×e×f×g×h×i×j×k×l×m×n×o×p×q):q:=d8 (d8 r)
def AP.hp:AP→HP
 | .c s => .c s
 | .agg l => .agg l
 | .box l => .box l
 | .gbox l => .gbox l
 | .clo g ds => .clo g ds
 | .ref j q => .mref j q
 | .dead => .dead
def W3:List AP→Nat→List SV
 | [], _ => []
 | a :: r, n => Zne a.hp n :: W3 r (n + a.n)
def ZrP:List AP→Nat
 | [] => 0
 | a :: r => a.n + ZrP r
def apsFine (l:List AP):Bool:=l.all fun a=>a.hp.fine
theorem Zo9 (a:AP) (us:List V) (j:Nat):Zmb a us j=KX a.hp us j:=by cases a<;>rfl
theorem ZeJ:∀ (l:List AP) (n:Nat) (us:List V),apsFine l=Xb→(W3 l n).map (SV.den (Zsv us))=VF l us n
 | [], _, _, _ => rfl
 | a :: r, n, us, h => by
  simp only [apsFine,List.all_cons,Xx] at h
  rw [W3,Xk,VF,Zo9,Zm5 (m:=n) h.1 (ρ:=Zsv us) (us:=us) (fun j _=>rfl),ZeJ r (n+a.n) us h.2]
theorem ZfV:∀ (l:List AP) (n:Nat),∀ x∈W3 l n,x.bd (n+ZrP l)
 | [], _ => by simp [W3]
 | a :: r, n => by
  intro x hx
  simp only [W3,Xu] at hx
  rcases hx with rfl | hx
  ·have hb:(Zne a.hp n).bd (n+a.n):=by
    cases a with
    | c s => cases s <;> exact Nat.lt_succ_self n
    | agg l => exact JA l n
    | box l => exact Ye l n
    | gbox l => exact Ye l n
    | clo g ds => trivial
    | ref j q => trivial
    | dead => trivial
   exact SV.bd_mono (by simp only [ZrP];omega) _ hb
  ·have:=ZfV r (n+a.n) x hx
   rw [ZrP,← Uw]
   exact this
section
variable {P:Program}
theorem fun_ok {Φ : List (FuncId × Fun)} {E : Env} (hm : P.follows .mixedOrders = Xb) (hps : EnvSound P E) {f : FuncId} {fn : Func} {S : Fun} {n : Nat} {T : STree} (hf : P.funcs[f]? = Xa fn) (hname : (fn.name == "runtime.NumGoroutine") = Xc)
  (hfine:apsFine S.args=Xb) (hn:ZrP S.args=n) (eq:Ztf P E fn (W3 S.args 0) n=T) (hΦ:ZkY P Φ) (hg:∀ vs,S.g vs=T.run P Φ S.args S.res (fun _ _=>Xe) (Zsv vs)):S.Ok P f:=by
 intro vs r h
 rw [hg] at h
 have:=callOk_ofR (R:=fun x os=>VG P (os++[x]) (Jm S.args (ZdR _ r) (ZfN S.res)++[Kn S.res (ZdR _ r) 0])) hm hps hf hname (args:=W3 S.args 0) (n:=n) (ρ:=Zsv vs)
  (fun a ha=>by have:=ZfV S.args 0 a ha;rwa [XM,hn] at this) (fun _ _ h=>h) (by rw [eq];exact Zbs hΦ (fun _ _ h=>h) T _ _ _ (fun _ _ h=>by cases h) h)
 rw [ZeJ S.args 0 vs hfine] at this
 exact this
end
section
open Go.Shelf Go.RowKit Go.Lib
variable {P:Program}
theorem Ki (w:World) (dT sT ty elem:TypeId) (inf:TypeInfo) (g o dLen dCap:Nat) (a:Addr) (sLen sCap n:Nat) (cur:Array Value) (t:TypeId) (cs:List Value)
  (hu:P.underlying dT=Xa (.slice elem)) (hs:P.info? elem=Xa inf) (hg:w.heap[g]? = Xa (.cells cur t (0,0))) (hn:n=Nat.min sLen dLen) (hl:cs.length=n*inf.size)
  (hsrc:∀ j v,cs[j]? = Xa v→w.cell? (a.add j)=Xa v) (hfit:o+cs.length≤cur.size) (h1:∀ v∈cs,v.oneCell'=Xb) :
  (Builtin.copy_ #[dT,sT] ty #[.slice (Xa ⟨g,o,Xe⟩) dLen dCap,.slice (Xa a) sLen sCap]).run P w =
   .ok (goInt n) (w.setRow g (cur.toList.take o++cs++cur.toList.drop (o+cs.length)).toArray):=by
 have hl':=run_loadCells_list (P:=P) w a cs hsrc
 have hst:=run_storeCells_at P g o t cs 0 cur w hg (by simpa using hfit) h1
 rw [hl] at hl'
 simp [Builtin.copy_,run_underlying hu,Builtin.lenOf,Builtin.firstCells,sizeOf,typeInfo,hs,← hn,hl',hst]
theorem ZgS (w:World) {o:Oper} {a:Act} {K:Act→World→Prop} {Q:Exit→Act→World→Prop} (d s:Operand) (t t':TypeId)
  (ho:o.op = .call { callee:=.builtin .copy,args:=#[d,s],argTypes:=#[t,t'] }) (v u:Value) (hd:a.eval d=v) (hs:a.eval s=u) {v':Value} {w':World}
  (hr:(Builtin.copy_ #[t,t'] o.type #[v,u]).run P w = .ok v' w') (h:K (a.put o.dst v') w'):o.wp P a w K Q:=by
 unfold Oper.wp execOp
 simp only [ho,resolve,invoke,builtin,Sem.run_bind,Sem.run_pure,Result.andThen_ok,UB,Xk,XL,hd,hs,hr]
 exact h
theorem VI (w:World) {ops:Array Oper} {rest:List Oper} {o:Oper} {a:Act} {Q:Exit→Act→World→Prop} (hgd:o.guard=Xe) (d s:Operand) (t t':TypeId)
  (ho:o.op = .call { callee:=.builtin .copy,args:=#[d,s],argTypes:=#[t,t'] }) (v u:Value) (hd:a.eval d=v) (hs:a.eval s=u) {v':Value} {w':World}
  (hr:(Builtin.copy_ #[t,t'] o.type #[v,u]).run P w = .ok v' w') (h:wpList P ops Q rest (a.put o.dst v') w'):wpList P ops Q (o::rest) a w:=
 wpList_plain hgd fun _ hK=>ZgS w d s t t' ho v u hd hs hr (hK _ _ h)
theorem WA {ops:Array Oper} {o:Oper} {a:Act} {w:World} {K:Act→World→Prop} {Q:Exit→Act→World→Prop} {E:Prop}
  (hg:o.guard=Xe) (d x:Operand) (dT sT:TypeId) (hop:o.op=Op.call { callee:=Callee.builtin Builtin.copy,args:=#[d,x],argTypes:=#[dT,sT] })
  (v u:Value) (hd:a.eval d=v) (hx:a.eval x=u) {v':Value} {w':World} (hr:(Builtin.copy_ #[dT,sT] o.type #[v,u]).run P w = .ok v' w') (hK:K (a.put o.dst v') w') :
  if Region.wanted o (yielded ops a.tmps)=Xb then Oper.wp P o a w K Q else E:=by
 have hw:Region.wanted o (yielded ops a.tmps)=Xb:=by simp [Region.wanted,hg]
 rw [if_pos hw]
 unfold Oper.wp
 simp [execOp,hop,resolve,invoke,builtin,hd,hx,hr,Result.andThen]
 exact hK
def insCode (T B I:TypeId) (fO fR:FuncId):Code:=
  (.seq (.region 0 #[
    ⟨Xa 6, .assign (.const (.slice Xe 0 0)), T, "slices.go:136", #[], Xe⟩] Xc)
  (.seq (.region 1 #[
    ⟨Xa 10, .move (.tmp 0), T, "slices.go:137", #[], Xe⟩,
    ⟨Xa 11, .move (.tmp 1), I, "slices.go:137", #[], Xe⟩,
    ⟨Xa 12, .slice T (.tmp 10) (Xa (.tmp 11)) Xe Xe, T, "slices.go:137", #[⟨0, .data⟩, ⟨1, .data⟩], Xe⟩] Xc)
  (.seq (.region 2 #[
    ⟨Xa 13, .move (.tmp 2), T, "slices.go:139", #[], Xe⟩,
    ⟨Xa 14, .call ⟨.builtin .len, #[(.tmp 13)], #[T]⟩, I, "slices.go:139", #[⟨0, .data⟩], Xe⟩,
    ⟨Xa 7, .assign (.tmp 14), I, "slices.go:139", #[⟨1, .data⟩, ⟨0, .phase⟩, ⟨1, .phase⟩], Xe⟩] Xc)
  (.seq (.seq (.region 3 #[
    ⟨Xa 15, .move (.tmp 7), I, "slices.go:140", #[], Xe⟩,
    ⟨Xa 16, .binOp .eql I (.tmp 15) (.const (.int .i64 0)) I, B, "slices.go:140", #[⟨0, .data⟩], Xe⟩] Xc)
  (.cond (.tmp 16)
   (.seq (.region 4 #[
     ⟨Xa 17, .move (.tmp 0), T, "slices.go:141", #[], Xe⟩,
     ⟨Xa 6, .assign (.tmp 17), T, "slices.go:141", #[⟨0, .data⟩, ⟨0, .phase⟩], Xe⟩] Xc)
   .ret)
   .skip))
  (.seq (.region 5 #[
    ⟨Xa 18, .move (.tmp 0), T, "slices.go:143", #[], Xe⟩,
    ⟨Xa 19, .call ⟨.builtin .len, #[(.tmp 18)], #[T]⟩, I, "slices.go:143", #[⟨0, .data⟩], Xe⟩,
    ⟨Xa 8, .assign (.tmp 19), I, "slices.go:143", #[⟨1, .data⟩, ⟨0, .phase⟩, ⟨1, .phase⟩], Xe⟩] Xc)
  (.seq (.seq (.region 6 #[
    ⟨Xa 20, .move (.tmp 1), I, "slices.go:144", #[], Xe⟩,
    ⟨Xa 21, .move (.tmp 8), I, "slices.go:144", #[], Xe⟩,
    ⟨Xa 22, .binOp .eql I (.tmp 20) (.tmp 21) I, B, "slices.go:144", #[⟨0, .data⟩, ⟨1, .data⟩], Xe⟩] Xc)
  (.cond (.tmp 22)
   (.seq (.region 7 #[
     ⟨Xa 23, .move (.tmp 0), T, "slices.go:145", #[], Xe⟩,
     ⟨Xa 24, .move (.tmp 2), T, "slices.go:145", #[], Xe⟩,
     ⟨Xa 25, .call ⟨.builtin .append, #[(.tmp 23), (.tmp 24)], #[T, T]⟩, T, "slices.go:145", #[⟨0, .data⟩, ⟨1, .data⟩], Xe⟩,
     ⟨Xa 6, .assign (.tmp 25), T, "slices.go:145", #[⟨2, .data⟩, ⟨2, .chain⟩, ⟨0, .phase⟩, ⟨1, .phase⟩, ⟨2, .phase⟩], Xe⟩] Xc)
   .ret)
   .skip))
  (.seq (.seq (.region 8 #[
    ⟨Xa 26, .move (.tmp 8), I, "slices.go:147", #[], Xe⟩,
    ⟨Xa 27, .move (.tmp 7), I, "slices.go:147", #[], Xe⟩,
    ⟨Xa 28, .binOp .add I (.tmp 26) (.tmp 27) I, I, "slices.go:147", #[⟨0, .data⟩, ⟨1, .data⟩], Xe⟩,
    ⟨Xa 29, .move (.tmp 0), T, "slices.go:147", #[], Xe⟩,
    ⟨Xa 30, .call ⟨.builtin .cap, #[(.tmp 29)], #[T]⟩, I, "slices.go:147", #[⟨3, .data⟩], Xe⟩,
    ⟨Xa 31, .binOp .gtr I (.tmp 28) (.tmp 30) I, B, "slices.go:147", #[⟨2, .data⟩, ⟨4, .data⟩], Xe⟩] Xc)
  (.cond (.tmp 31)
   (.seq (.region 9 #[
     ⟨Xa 32, .move (.tmp 0), T, "slices.go:152", #[], Xe⟩,
     ⟨Xa 33, .move (.tmp 1), I, "slices.go:152", #[], Xe⟩,
     ⟨Xa 34, .slice T (.tmp 32) Xe (Xa (.tmp 33)) Xe, T, "slices.go:152", #[⟨0, .data⟩, ⟨1, .data⟩], Xe⟩,
     ⟨Xa 35, .move (.tmp 8), I, "slices.go:152", #[], Xe⟩,
     ⟨Xa 36, .move (.tmp 7), I, "slices.go:152", #[], Xe⟩,
     ⟨Xa 37, .binOp .add I (.tmp 35) (.tmp 36) I, I, "slices.go:152", #[⟨3, .data⟩, ⟨4, .data⟩], Xe⟩,
     ⟨Xa 38, .move (.tmp 1), I, "slices.go:152", #[], Xe⟩,
     ⟨Xa 39, .binOp .sub I (.tmp 37) (.tmp 38) I, I, "slices.go:152", #[⟨5, .data⟩, ⟨6, .data⟩], Xe⟩,
     ⟨Xa 40, .call ⟨.builtin .append, #[(.tmp 34), (.tmp 39)], #[T, I]⟩, T, "slices.go:152", #[⟨2, .data⟩, ⟨7, .data⟩], Xe⟩,
     ⟨Xa 9, .assign (.tmp 40), T, "slices.go:152", #[⟨8, .data⟩, ⟨8, .chain⟩, ⟨0, .phase⟩, ⟨1, .phase⟩, ⟨2, .phase⟩, ⟨3, .phase⟩, ⟨4, .phase⟩, ⟨5, .phase⟩, ⟨6, .phase⟩, ⟨7, .phase⟩, ⟨8, .phase⟩], Xe⟩] Xc)
   (.seq (.region 10 #[
     ⟨Xa 41, .move (.tmp 9), T, "slices.go:153", #[], Xe⟩,
     ⟨Xa 42, .move (.tmp 1), I, "slices.go:153", #[], Xe⟩,
     ⟨Xa 43, .slice T (.tmp 41) (Xa (.tmp 42)) Xe Xe, T, "slices.go:153", #[⟨0, .data⟩, ⟨1, .data⟩], Xe⟩,
     ⟨Xa 44, .move (.tmp 2), T, "slices.go:153", #[], Xe⟩,
     ⟨Xa 45, .call ⟨.builtin .copy, #[(.tmp 43), (.tmp 44)], #[T, T]⟩, I, "slices.go:153", #[⟨2, .data⟩, ⟨3, .data⟩], Xe⟩] Xc)
   (.seq (.region 11 #[
     ⟨Xa 46, .move (.tmp 9), T, "slices.go:154", #[], Xe⟩,
     ⟨Xa 47, .move (.tmp 1), I, "slices.go:154", #[], Xe⟩,
     ⟨Xa 48, .move (.tmp 7), I, "slices.go:154", #[], Xe⟩,
     ⟨Xa 49, .binOp .add I (.tmp 47) (.tmp 48) I, I, "slices.go:154", #[⟨1, .data⟩, ⟨2, .data⟩], Xe⟩,
     ⟨Xa 50, .slice T (.tmp 46) (Xa (.tmp 49)) Xe Xe, T, "slices.go:154", #[⟨0, .data⟩, ⟨3, .data⟩], Xe⟩,
     ⟨Xa 51, .move (.tmp 0), T, "slices.go:154", #[], Xe⟩,
     ⟨Xa 52, .move (.tmp 1), I, "slices.go:154", #[], Xe⟩,
     ⟨Xa 53, .slice T (.tmp 51) (Xa (.tmp 52)) Xe Xe, T, "slices.go:154", #[⟨5, .data⟩, ⟨6, .data⟩], Xe⟩,
     ⟨Xa 54, .call ⟨.builtin .copy, #[(.tmp 50), (.tmp 53)], #[T, T]⟩, I, "slices.go:154", #[⟨4, .data⟩, ⟨7, .data⟩], Xe⟩] Xb)
   (.seq (.region 12 #[
     ⟨Xa 55, .move (.tmp 9), T, "slices.go:155", #[], Xe⟩,
     ⟨Xa 6, .assign (.tmp 55), T, "slices.go:155", #[⟨0, .data⟩, ⟨0, .phase⟩], Xe⟩] Xc)
   .ret))))
   .skip))
  (.seq (.region 13 #[
    ⟨Xa 56, .move (.tmp 0), T, "slices.go:157", #[], Xe⟩,
    ⟨Xa 57, .move (.tmp 8), I, "slices.go:157", #[], Xe⟩,
    ⟨Xa 58, .move (.tmp 7), I, "slices.go:157", #[], Xe⟩,
    ⟨Xa 59, .binOp .add I (.tmp 57) (.tmp 58) I, I, "slices.go:157", #[⟨1, .data⟩, ⟨2, .data⟩], Xe⟩,
    ⟨Xa 60, .slice T (.tmp 56) Xe (Xa (.tmp 59)) Xe, T, "slices.go:157", #[⟨0, .data⟩, ⟨3, .data⟩], Xe⟩,
    ⟨Xa 0, .assign (.tmp 60), T, "slices.go:157", #[⟨4, .data⟩, ⟨0, .phase⟩, ⟨1, .phase⟩, ⟨2, .phase⟩, ⟨3, .phase⟩, ⟨4, .phase⟩], Xe⟩] Xc)
  (.seq (.seq (.region 14 #[
    ⟨Xa 61, .move (.tmp 2), T, "slices.go:173", #[], Xe⟩,
    ⟨Xa 62, .move (.tmp 0), T, "slices.go:173", #[], Xe⟩,
    ⟨Xa 63, .move (.tmp 1), I, "slices.go:173", #[], Xe⟩,
    ⟨Xa 64, .move (.tmp 7), I, "slices.go:173", #[], Xe⟩,
    ⟨Xa 65, .binOp .add I (.tmp 63) (.tmp 64) I, I, "slices.go:173", #[⟨2, .data⟩, ⟨3, .data⟩], Xe⟩,
    ⟨Xa 66, .slice T (.tmp 62) (Xa (.tmp 65)) Xe Xe, T, "slices.go:173", #[⟨1, .data⟩, ⟨4, .data⟩], Xe⟩,
    ⟨Xa 67, .call ⟨.value (.func fO), #[(.tmp 61), (.tmp 66)], #[T, T]⟩, B, "slices.go:173", #[⟨0, .data⟩, ⟨5, .data⟩], Xe⟩,
    ⟨Xa 68, .unOp .not B (.tmp 67), B, "slices.go:173", #[⟨6, .data⟩], Xe⟩] Xc)
  (.cond (.tmp 68)
   (.seq (.region 15 #[
     ⟨Xa 69, .move (.tmp 0), T, "slices.go:178", #[], Xe⟩,
     ⟨Xa 70, .move (.tmp 1), I, "slices.go:178", #[], Xe⟩,
     ⟨Xa 71, .move (.tmp 7), I, "slices.go:178", #[], Xe⟩,
     ⟨Xa 72, .binOp .add I (.tmp 70) (.tmp 71) I, I, "slices.go:178", #[⟨1, .data⟩, ⟨2, .data⟩], Xe⟩,
     ⟨Xa 73, .slice T (.tmp 69) (Xa (.tmp 72)) Xe Xe, T, "slices.go:178", #[⟨0, .data⟩, ⟨3, .data⟩], Xe⟩,
     ⟨Xa 74, .move (.tmp 0), T, "slices.go:178", #[], Xe⟩,
     ⟨Xa 75, .move (.tmp 1), I, "slices.go:178", #[], Xe⟩,
     ⟨Xa 76, .slice T (.tmp 74) (Xa (.tmp 75)) Xe Xe, T, "slices.go:178", #[⟨5, .data⟩, ⟨6, .data⟩], Xe⟩,
     ⟨Xa 77, .call ⟨.builtin .copy, #[(.tmp 73), (.tmp 76)], #[T, T]⟩, I, "slices.go:178", #[⟨4, .data⟩, ⟨7, .data⟩], Xe⟩] Xb)
   (.seq (.region 16 #[
     ⟨Xa 78, .move (.tmp 0), T, "slices.go:186", #[], Xe⟩,
     ⟨Xa 79, .move (.tmp 1), I, "slices.go:186", #[], Xe⟩,
     ⟨Xa 80, .slice T (.tmp 78) (Xa (.tmp 79)) Xe Xe, T, "slices.go:186", #[⟨0, .data⟩, ⟨1, .data⟩], Xe⟩,
     ⟨Xa 81, .move (.tmp 2), T, "slices.go:186", #[], Xe⟩,
     ⟨Xa 82, .call ⟨.builtin .copy, #[(.tmp 80), (.tmp 81)], #[T, T]⟩, I, "slices.go:186", #[⟨2, .data⟩, ⟨3, .data⟩], Xe⟩] Xc)
   (.seq (.region 17 #[
     ⟨Xa 83, .move (.tmp 0), T, "slices.go:193", #[], Xe⟩,
     ⟨Xa 6, .assign (.tmp 83), T, "slices.go:193", #[⟨0, .data⟩, ⟨0, .phase⟩], Xe⟩] Xc)
   .ret)))
   .skip))
  (.seq (.region 18 #[
    ⟨Xa 84, .move (.tmp 0), T, "slices.go:200", #[], Xe⟩,
    ⟨Xa 85, .move (.tmp 8), I, "slices.go:200", #[], Xe⟩,
    ⟨Xa 86, .slice T (.tmp 84) (Xa (.tmp 85)) Xe Xe, T, "slices.go:200", #[⟨0, .data⟩, ⟨1, .data⟩], Xe⟩,
    ⟨Xa 87, .move (.tmp 2), T, "slices.go:200", #[], Xe⟩,
    ⟨Xa 88, .call ⟨.builtin .copy, #[(.tmp 86), (.tmp 87)], #[T, T]⟩, I, "slices.go:200", #[⟨2, .data⟩, ⟨3, .data⟩], Xe⟩] Xc)
  (.seq (.region 19 #[
    ⟨Xa 89, .move (.tmp 0), T, "slices.go:207", #[], Xe⟩,
    ⟨Xa 90, .move (.tmp 1), I, "slices.go:207", #[], Xe⟩,
    ⟨Xa 91, .slice T (.tmp 89) (Xa (.tmp 90)) Xe Xe, T, "slices.go:207", #[⟨0, .data⟩, ⟨1, .data⟩], Xe⟩,
    ⟨Xa 92, .move (.tmp 7), I, "slices.go:207", #[], Xe⟩,
    ⟨Xa 93, .call ⟨.value (.func fR), #[(.tmp 91), (.tmp 92)], #[T, I]⟩, 0, "slices.go:207", #[⟨2, .data⟩, ⟨3, .data⟩], Xe⟩] Xc)
  (.seq (.region 20 #[
    ⟨Xa 94, .move (.tmp 0), T, "slices.go:214", #[], Xe⟩,
    ⟨Xa 6, .assign (.tmp 94), T, "slices.go:214", #[⟨0, .data⟩, ⟨0, .phase⟩], Xe⟩] Xc)
  .ret))))))))))))
structure ZcW (P:Program) (T B I e:TypeId) (inf:TypeInfo) (z:Value) (k:Nat):Prop where
 mixed:P.follows .mixedOrders=Xb
 tT:P.underlying T=Xa (.slice e)
 tI:P.underlying I=Xa (.int .i64)
 tB:P.underlying B=Xa .bool
 ie:P.info? e=Xa inf
 zero:inf.zero=Xa z
 zsz:z.cells.size=k
 sz:inf.size=k
 pos:0 < k
 nm:Zk P e=Xc
structure ZcD (P:Program) (T B I:TypeId) (fO:FuncId) (e:TypeId) (inf:TypeInfo) (z:Value) (k:Nat):Prop extends ZcW P T B I e inf z k where
 fO:∀ args w,(callFunc fO args).run P w=((Extern.SlicesOverlaps.overlaps #[T,T] #[B] args).run P w).andThen fun v w'=>.ok (.value v) w'
theorem Zjx {w:World} {b:Nat} {cur:Array Value} {e:TypeId} {fr:Nat×Nat} (h:w.heap[b]? = Xa (.cells cur e fr)):w.shape? b=Xa (e,cur.size):=by simp [World.shape?,h]
theorem Zgv {w:World} {b o:Nat} {cur:Array Value} {e:TypeId} (h:w.heap[b]? = Xa (.cells cur e (0,0))):w.frozen? ⟨b,o,Xe⟩=Xc:=by simp [World.frozen?,h]
def YD (U:List Value) (k n m i:Nat):List Value:=U.take ((i+m)*k)++(U.drop (i*k)).take ((n-i)*k)++U.drop ((i+m)*k+(n-i)*k)
def Zej (U vs:List Value) (k n m i:Nat):List Value:=
 (YD U k n m i).take (i*k)++vs++(YD U k n m i).drop (i*k+m*k)
theorem Wc {w:World} {b:Nat} {cur:Array Value} {e:TypeId} {fr:Nat×Nat} (h:w.heap[b]? = Xa (.cells cur e fr)) {l:List Value} {q:Nat} (hl:∀ j v,l[j]? = Xa v→cur[q+j]? = Xa v) :
  ∀ j v,l[j]? = Xa v→w.cell? ((⟨b,q,Xe⟩:Addr).add j)=Xa v:=fun j v hj=>by
 rw [Jk,Zl h]
 exact hl j v hj
theorem YH {w:World} {b:Nat} {cur cur':Array Value} {t:TypeId} (h:w.heap[b]? = Xa (.cells cur t (0,0))):(w.setRow b cur').heap[b]? = Xa (.cells cur' t (0,0)):=setRow_heap w b cur cur' t (0,0) h
set_option maxHeartbeats 4000000 in
set_option maxRecDepth 100000 in
theorem Zmn {T B I:TypeId} {fO fR:FuncId} {e:TypeId} {inf:TypeInfo} {z:Value} {k:Nat} (L:ZcD P T B I fO e inf z k) {f:FuncId} {fn:Func} (hf:P.funcs[f]? = Xa fn) (hb:fn.body=Xa (insCode T B I fO fR)) (hnt:fn.ntmps=95) (hrs:fn.results = #[.tmp 6])
  (b n c i vb m vc:Nat) (cur vcur:Array Value) (w:World) (hi:i < n) (hm:0 < m) (hroom:n+m≤c) (hc63:c≤9223372036854775807) (hvb:vb≠b)
  (hg:w.heap[b]? = Xa (.cells cur e (0,0))) (hcs:cur.size=c*k) (hvg:w.heap[vb]? = Xa (.cells vcur e (0,0))) (hvs:vcur.size=vc*k) (hmv:m≤vc)
  (h1c:∀ v∈cur.toList.take (n*k),v.oneCell'=Xb) (h1v:∀ v∈vcur.toList.take (m*k),v.oneCell'=Xb) :
  Calls P f #[.slice (Xa ⟨b,0,Xe⟩) n c,.int .i64 i,.slice (Xa ⟨vb,0,Xe⟩) m vc] w fun e' w'=>
   e' = .returned (.slice (Xa ⟨b,0,Xe⟩) (n+m) c)∧w'=(w.drew.setRow b (YD cur.toList k n m i).toArray).setRow b (Zej cur.toList (vcur.toList.take (m*k)) k n m i).toArray:=by
 have mixed:=L.mixed
 have t0:=L.tT;have t1:=L.tI;have t2:=L.tB
 have u0:=run_underlying L.tT;have u1:=run_underlying L.tI;have u2:=run_underlying L.tB
 have zsE:∀ w,(Go.sizeOf e).run P w = .ok k w:=fun w=>by rw [Zv L.ie];rw [ZI L.ie,L.sz]
 have hk:=L.pos
 have hz1:¬ ((m:Int)=0):=by omega
 have hz2:¬ ((i:Int)=(n:Int)):=by omega
 have hn0:(n+m)*k≤c*k:=XF _ hroom
 have hn1:(n+m)*k=n*k+m*k:=XT _ _ _
 have hn2:(i+m)*k=i*k+m*k:=XT _ _ _
 have hn3:(n-i)*k=n*k-i*k:=UV _ _ _
 have hn4:i*k≤n*k:=XF _ (by omega)
 have hn5:0 < c*k:=Nat.mul_pos (by omega) hk
 have hn6:m*k≤vc*k:=XF _ hmv
 have hov:∀ lb cb W,W.heap[vb]? = w.heap[vb]?→W.heap[b]? = w.heap[b]?→(callFunc fO #[.slice (Xa ⟨vb,0,Xe⟩) m vc,.slice (Xa ⟨b,(i+m)*k,Xe⟩) lb cb]).run P W = .ok (.value (.bool Xc)) W:=fun lb cb W h1 h2=>by
  rw [L.fO,Lib.run_overlaps_apart W T B e L.tT k zsE ⟨vb,0,Xe⟩ ⟨b,(i+m)*k,Xe⟩ m vc lb cb hvb e e vcur.size cur.size (Zjx (h1.trans hvg)) (Zjx (h2.trans hg)) (by omega) (Zgv (h1.trans hvg)) (Zgv (h1.trans hvg))]
  rfl
 have hcl:cur.toList.length=c*k:=by simpa using hcs
 have hin:i≤n:=by omega
 have hcp1:∀ ty dc sc,(Builtin.copy_ #[T,T] ty #[.slice (Xa ⟨b,(i+m)*k,Xe⟩) (n+m-(i+m)) dc,.slice (Xa ⟨b,i*k,Xe⟩) (n+m-i) sc]).run P w.drew = .ok (goInt ((n-i:Nat):Int)) (w.drew.setRow b (YD cur.toList k n m i).toArray):=fun ty dc sc=>by
  have hlen:((cur.toList.drop (i*k)).take ((n-i)*k)).length=(n-i)*k:=by rw [Xt,XV,hcl];omega
  have:=Ki (P:=P) w.drew T T ty e inf b ((i+m)*k) (n+m-(i+m)) dc ⟨b,i*k,Xe⟩ (n+m-i) sc (n-i) cur e ((cur.toList.drop (i*k)).take ((n-i)*k)) L.tT L.ie hg (by simp only [Nat.min_def];split<;>omega) (by rw [hlen,L.sz])
   (Wc (w:=w.drew) hg fun j v hj=>by
    rw [Xz] at hj
    split at hj
    ·rw [XI] at hj;simpa using hj
    ·cases hj)
   (by rw [hlen,hcs];omega) (fun v hv=>h1c v (by
    rw [hn3,← List.drop_take] at hv
    exact XS hv))
  rw [hlen] at this
  exact this
 have hcp2:∀ W,W.heap[b]? = Xa (.cells (YD cur.toList k n m i).toArray e (0,0))→W.heap[vb]? = w.heap[vb]?→∀ ty dc,(Builtin.copy_ #[T,T] ty #[.slice (Xa ⟨b,i*k,Xe⟩) (n+m-i) dc,.slice (Xa ⟨vb,0,Xe⟩) m vc]).run P W = .ok (goInt m) (W.setRow b (Zej cur.toList (vcur.toList.take (m*k)) k n m i).toArray):=fun W h1 h2 ty dc=>by
  have hvl:vcur.toList.length=vc*k:=by simpa using hvs
  have hlen:(vcur.toList.take (m*k)).length=m*k:=by rw [Xt,hvl];omega
  have:=Ki (P:=P) W T T ty e inf b (i*k) (n+m-i) dc ⟨vb,0,Xe⟩ m vc m (YD cur.toList k n m i).toArray e (vcur.toList.take (m*k)) L.tT L.ie h1 (by simp only [Nat.min_def];split<;>omega) (by rw [hlen,L.sz])
   (Wc (w:=W) (h2.trans hvg) fun j v hj=>by
    rw [Xz] at hj
    split at hj
    ·simpa using hj
    ·cases hj)
   (by
    have:(YD cur.toList k n m i).length=c*k:=by simp only [YD,Xr,Xt,XV,hcl];omega
    rw [hlen,Uk,this];omega) h1v
  rw [hlen] at this
  exact this
 have hw1:IntKind.i64.wrap ((i:Int)+(m:Int))=(i:Int)+(m:Int):=by rw [U6];omega
 have hw2:IntKind.i64.wrap ((n:Int)+(m:Int))=(n:Int)+(m:Int):=by rw [U6];omega
 have hb1:(0:Int)≤(i:Int)+(m:Int):=by omega
 have htn:((i:Int)+(m:Int)).toNat=i+m:=by omega
 have hb2:¬ (c=i+m):=by omega
 have hb3:(i:Int)≤(n:Int)+(m:Int):=by omega
 have hb4:¬ (c=i):=by omega
 have hcp2w:=fun ty dc=>hcp2 (w.drew.setRow b (YD cur.toList k n m i).toArray) (YH (w:=w.drew) hg) (by simp [World.setRow,Tl,Ne.symm hvb];rfl) ty dc
 have hovw:=fun lb cb=>hov lb cb w rfl rfl
 rw [hn2] at hovw hcp1
 clear hcp2 hov hg hvg hcs hcl hvs h1c h1v
 refine calls_of_wp hf hb ?_
 rw [hnt]
 simp only [Uk,XN,Up,Nat.reduceAdd,Nat.reduceSub,Tz,TA,TB,TD,X4,X6]
 unfold insCode
 go_wp2_with (simp only [hovw])
 go_region_law_o (refine WA rfl _ _ T T rfl _ _ (by simp [Act.eval,Act.put]) (by simp [Act.eval,Act.put]) (hcp1 _ _ _) ?_)
 go_wp2_with (at_builtin;refine VI _ rfl _ _ T T rfl _ _ rfl rfl (hcp2w _ _) ?_)
 refine bodyPost_ret (results_tmp hrs _ _ _) rfl ?_
 exact ⟨rfl,rfl⟩
set_option maxHeartbeats 4000000 in
set_option maxRecDepth 100000 in
theorem ZqF {T B I:TypeId} {fO fR:FuncId} {e:TypeId} {inf:TypeInfo} {z:Value} {k:Nat} (L:ZcD P T B I fO e inf z k) {f:FuncId} {fn:Func} (hf:P.funcs[f]? = Xa fn) (hb:fn.body=Xa (insCode T B I fO fR)) (hnt:fn.ntmps=95) (hrs:fn.results = #[.tmp 6])
  (base:Option Addr) (n c:Nat) (vb:Option Addr) (m vc:Nat) (w w1:World) (v1:Value) (hm:0 < m) (hnc:n≤c)
  (hr:∀ ty,(Builtin.append_ #[T,T] ty #[.slice base n c,.slice vb m vc]).run P w = .ok v1 w1) :
  Calls P f #[.slice base n c,.int .i64 n,.slice vb m vc] w fun e' w'=>e' = .returned v1∧w'=w1:=by
 have mixed:=L.mixed
 have t0:=L.tT;have t1:=L.tI;have t2:=L.tB
 have u0:=run_underlying L.tT;have u1:=run_underlying L.tI;have u2:=run_underlying L.tB
 have zsE:∀ w,(Go.sizeOf e).run P w = .ok k w:=fun w=>by rw [Zv L.ie];rw [ZI L.ie,L.sz]
 have hz1:¬ ((m:Int)=0):=by omega
 refine calls_of_wp hf hb ?_
 rw [hnt]
 simp only [Uk,XN,Up,Nat.reduceAdd,Nat.reduceSub,Tz,TA,TB,TD,X4,X6]
 unfold insCode
 cases base with
 | none =>
  go_wp2_with (at_builtin;refine Lib.wpList_append_run _ rfl _ _ _ _ rfl _ _ rfl rfl _ _ (hr _) ?_)
  refine bodyPost_ret (results_tmp hrs _ _ _) rfl ?_
  exact ⟨rfl,rfl⟩
 | some a =>
  obtain ⟨ab,ao,asp⟩:=a
  go_wp2_with (at_builtin;refine Lib.wpList_append_run _ rfl _ _ _ _ rfl _ _ rfl rfl _ _ (hr _) ?_)
  all_goals
   refine bodyPost_ret (results_tmp hrs _ _ _) rfl ?_
   exact ⟨rfl,rfl⟩
def V4 (U:List Value) (zc:Array Value) (k n m i G:Nat):Array Value:=(U.take (i*k)).toArray++Builtin.zeroCells zc (n+m-i)++Builtin.zeroCells zc (G-(n+m))
def Vj (R vs:List Value) (k m i:Nat):List Value:=R.take (i*k)++vs++R.drop (i*k+m*k)
def Zdw (R U:List Value) (k n m i:Nat):List Value:=R.take (i*k+m*k)++(U.drop (i*k)).take ((n-i)*k)++R.drop (i*k+m*k+(n-i)*k)
theorem Zbr {U:List Value} {zc:Array Value} {k n m i G:Nat} (hz:zc.size=k) (hi:i≤n) (hG:n+m≤G) (hU:i*k≤U.length):(V4 U zc k n m i G).size=G*k:=by
 simp only [V4,Array.size_append,Uk,Xt,size_zeroCells,hz]
 rw [Nat.min_eq_left hU,← XT,← XT]
 congr 1
 omega
set_option maxHeartbeats 4000000 in
set_option maxRecDepth 100000 in
theorem ZnM {T B I:TypeId} {fO fR:FuncId} {e:TypeId} {inf:TypeInfo} {z:Value} {k:Nat} (L:ZcD P T B I fO e inf z k) {f:FuncId} {fn:Func} (hf:P.funcs[f]? = Xa fn) (hb:fn.body=Xa (insCode T B I fO fR)) (hnt:fn.ntmps=95) (hrs:fn.results = #[.tmp 6])
  (b n c i vb m vc:Nat) (cur vcur:Array Value) (w:World) (hi:i < n) (hm:0 < m) (hnc:n≤c) (hroom:c < n+m) (hbig:(n+m)*inf.bytes≤140737488355328) (h62:n+m≤4611686018427387904)
  (hg:w.heap[b]? = Xa (.cells cur e (0,0))) (hcs:cur.size=c*k) (hvg:w.heap[vb]? = Xa (.cells vcur e (0,0))) (hvs:vcur.size=vc*k) (hmv:m≤vc)
  (h1c:∀ v∈cur.toList.take (n*k),v.oneCell'=Xb) (h1v:∀ v∈vcur.toList.take (m*k),v.oneCell'=Xb) :
  Calls P f #[.slice (Xa ⟨b,0,Xe⟩) n c,.int .i64 i,.slice (Xa ⟨vb,0,Xe⟩) m vc] w fun e' w'=>
   ∃ G,n+m≤G∧G≤maxLen∧e' = .returned (.slice (Xa ⟨w.heap.size,0,Xe⟩) (n+m) G)∧
    w'=(((w.drew.alloc (.cells (V4 cur.toList z.cells k n m i G) e)).setRow w.heap.size (Vj (V4 cur.toList z.cells k n m i G).toList (vcur.toList.take (m*k)) k m i).toArray).drew).setRow w.heap.size
     (Zdw (Vj (V4 cur.toList z.cells k n m i G).toList (vcur.toList.take (m*k)) k m i) cur.toList k n m i).toArray:=by
 have mixed:=L.mixed
 have t0:=L.tT;have t1:=L.tI;have t2:=L.tB
 have u0:=run_underlying L.tT;have u1:=run_underlying L.tI;have u2:=run_underlying L.tB
 have zsE:∀ w,(Go.sizeOf e).run P w = .ok k w:=fun w=>by rw [Zv L.ie];rw [ZI L.ie,L.sz]
 have hk:=L.pos
 have hz1:¬ ((m:Int)=0):=by omega
 have hz2:¬ ((i:Int)=(n:Int)):=by omega
 have hz3:(c:Int) < (n:Int)+(m:Int):=by omega
 have hn1:(n+m)*k=n*k+m*k:=XT _ _ _
 have hn2:(i+m)*k=i*k+m*k:=XT _ _ _
 have hn3:(n-i)*k=n*k-i*k:=UV _ _ _
 have hn4:i*k≤n*k:=XF _ (by omega)
 have hn5:n*k≤c*k:=XF _ hnc
 have hn6:m*k≤vc*k:=XF _ hmv
 have hcl:cur.toList.length=c*k:=by simpa using hcs
 have hvl:vcur.toList.length=vc*k:=by simpa using hvs
 have hin:i≤n:=by omega
 have hbw:b < w.heap.size:=(Ua.1 hg).1
 have hvw:vb < w.heap.size:=(Ua.1 hvg).1
 have hkk:(n:Int)+(m:Int)-(i:Int)=((n+m-i:Nat):Int):=by omega
 have hik:i+(n+m-i)=n+m:=by omega
 obtain ⟨G,hG⟩:∃ G,G=grownCap w (n+m) c e:=⟨_,rfl⟩
 have hGn:n+m≤G:=by rw [hG];exact grownCap_ge w _ _ _
 have hGm:G≤maxLen:=by rw [hG];exact grownCap_le_maxLen w (n+m) c e (by unfold maxLen;omega)
 have hG63:G≤9223372036854775807:=by unfold maxLen at hGm;omega
 have hmk:(n+m)*k≤G*k:=XF _ hGn
 obtain ⟨R0,hR0⟩:∃ R0,R0=V4 cur.toList z.cells k n m i G:=⟨_,rfl⟩
 have hR0s:R0.size=G*k:=by rw [hR0];exact Zbr L.zsz hin hGn (by rw [hcl];omega)
 have hR0l:R0.toList.length=G*k:=by simpa using hR0s
 have hold:(Builtin.firstCells inf.size i (.slice (Xa ⟨b,0,Xe⟩) i c)).run P w.drew = .ok (cur.toList.take (i*k)).toArray w.drew:=by
  rw [L.sz]
  exact run_firstCells_some w.drew k i ⟨b,0,Xe⟩ i c (cur.toList.take (i*k)) (by rw [Xt,hcl];omega) (Wc (w:=w.drew) hg fun j v hj=>by
   rw [Xz] at hj
   split at hj
   ·simpa using hj
   ·cases hj)
 have hrz:∀ ty,(Builtin.append_ #[T,I] ty #[.slice (Xa ⟨b,0,Xe⟩) i c,.int .i64 ((n:Int)+(m:Int)-(i:Int))]).run P w =
   .ok (.slice (Xa ⟨w.heap.size,0,Xe⟩) (n+m) G) (w.drew.alloc (.cells R0 e)):=fun ty=>by
  have hb0:(n+m-i)*inf.bytes≤(n+m)*inf.bytes:=XF _ (by omega)
  have h:=Lib.run_append_grow_zeros w T I ty e inf z .i64 .i64 L.tT L.tI L.ie L.zero (Xa ⟨b,0,Xe⟩) i c (cur.toList.take (i*k)) hold (n+m-i) (by omega) (by rw [L.sz];exact hk) (by omega) (by omega) (by omega) (by rw [hik];exact growslice_fits hroom hbig)
  rw [hik,← hG] at h
  rw [hkk,h,hR0]
  rfl
 obtain ⟨R1,hR1⟩:∃ R1,R1=Vj R0.toList (vcur.toList.take (m*k)) k m i:=⟨_,rfl⟩
 have hvtl:(vcur.toList.take (m*k)).length=m*k:=by rw [Xt,hvl];omega
 have hR1l:R1.length=G*k:=by
  rw [hR1]
  simp only [Vj,Xr,hvtl,Xt,XV,hR0l]
  omega
 have hcpA:∀ W,W.heap[w.heap.size]? = Xa (.cells R0 e (0,0))→W.heap[vb]? = w.heap[vb]?→∀ ty dc,(Builtin.copy_ #[T,T] ty #[.slice (Xa ⟨w.heap.size,i*k,Xe⟩) (n+m-i) dc,.slice (Xa ⟨vb,0,Xe⟩) m vc]).run P W = .ok (goInt m) (W.setRow w.heap.size R1.toArray):=fun W h1 h2 ty dc=>by
  have:=Ki (P:=P) W T T ty e inf w.heap.size (i*k) (n+m-i) dc ⟨vb,0,Xe⟩ m vc m R0 e (vcur.toList.take (m*k)) L.tT L.ie h1 (by simp only [Nat.min_def];split<;>omega) (by rw [hvtl,L.sz])
   (Wc (w:=W) (h2.trans hvg) fun j v hj=>by
    rw [Xz] at hj
    split at hj
    ·simpa using hj
    ·cases hj)
   (by rw [hvtl,hR0s];omega) h1v
  rw [hvtl] at this
  rw [this,hR1]
  rfl
 have hcpB:∀ W,W.heap[w.heap.size]? = Xa (.cells R1.toArray e (0,0))→W.heap[b]? = w.heap[b]?→∀ ty dc sc,(Builtin.copy_ #[T,T] ty #[.slice (Xa ⟨w.heap.size,i*k+m*k,Xe⟩) (n+m-(i+m)) dc,.slice (Xa ⟨b,i*k,Xe⟩) (n-i) sc]).run P W = .ok (goInt ((n-i:Nat):Int)) (W.setRow w.heap.size (Zdw R1 cur.toList k n m i).toArray):=fun W h1 h2 ty dc sc=>by
  have hlen:((cur.toList.drop (i*k)).take ((n-i)*k)).length=(n-i)*k:=by rw [Xt,XV,hcl];omega
  have:=Ki (P:=P) W T T ty e inf w.heap.size (i*k+m*k) (n+m-(i+m)) dc ⟨b,i*k,Xe⟩ (n-i) sc (n-i) R1.toArray e ((cur.toList.drop (i*k)).take ((n-i)*k)) L.tT L.ie h1 (by simp only [Nat.min_def];split<;>omega) (by rw [hlen,L.sz])
   (Wc (w:=W) (h2.trans hg) fun j v hj=>by
    rw [Xz] at hj
    split at hj
    ·rw [XI] at hj;simpa using hj
    ·cases hj)
   (by rw [hlen,Uk,hR1l];omega) (fun v hv=>h1c v (by
    rw [hn3,← List.drop_take] at hv
    exact XS hv))
  rw [hlen] at this
  exact this
 have hA0:(w.drew.alloc (.cells R0 e)).heap[w.heap.size]? = Xa (.cells R0 e (0,0)):=JW w.drew R0 e
 have hAo:∀ x,x < w.heap.size→(w.drew.alloc (.cells R0 e)).heap[x]? = w.heap[x]?:=fun x hx=>heap_alloc_old w.drew _ hx
 have hcpA':=hcpA (w.alloc (.cells R0 e)).drew hA0 (hAo vb hvw)
 have hcpB':=hcpB ((w.alloc (.cells R0 e)).drew.setRow w.heap.size R1.toArray).drew (YH hA0) (by
  have:((w.drew.alloc (.cells R0 e)).setRow w.heap.size R1.toArray).heap[b]? = (w.drew.alloc (.cells R0 e)).heap[b]?:=by simp [World.setRow,Tl,Nat.ne_of_gt hbw]
  exact this.trans (hAo b hbw))
 have hw1:IntKind.i64.wrap ((i:Int)+(m:Int))=(i:Int)+(m:Int):=by rw [U6];omega
 have hw2:IntKind.i64.wrap ((n:Int)+(m:Int))=(n:Int)+(m:Int):=by rw [U6];omega
 have hw3:IntKind.i64.wrap ((n:Int)+(m:Int)-(i:Int))=(n:Int)+(m:Int)-(i:Int):=by rw [U6];omega
 have hb1:(0:Int)≤(i:Int)+(m:Int):=by omega
 have htn:((i:Int)+(m:Int)).toNat=i+m:=by omega
 have hb3:(i:Int)≤(n:Int):=by omega
 have hb4:(i:Int)≤(n:Int)+(m:Int):=by omega
 have hGi:¬ (G=i):=by omega
 have hGim:¬ (G=i+m):=by omega
 have hci:¬ (c=i):=by omega
 refine Calls.mono ?_ (fun e' w' h=>⟨G,hGn,hGm,h⟩)
 rw [← hR0,← hR1]
 clear hcpA hcpB hold hg hvg hcs hcl hvs h1c h1v hR0 hR1 hG hvl hR0s hR0l hR1l hvtl hkk hik
 refine calls_of_wp hf hb ?_
 rw [hnt]
 simp only [Uk,XN,Up,Nat.reduceAdd,Nat.reduceSub,Tz,TA,TB,TD,X4,X6]
 unfold insCode
 go_wp2_with (first
  | (at_builtin; refine Lib.wpList_append_run _ rfl _ _ _ _ rfl _ _ rfl rfl _ _ (hrz _) ?_)
  | (at_builtin; refine VI _ rfl _ _ T T rfl _ _ rfl rfl (hcpA' _ _) ?_))
 go_region_law_o (refine WA rfl _ _ T T rfl _ _ (by simp [Act.eval,Act.put]) (by simp [Act.eval,Act.put]) (hcpB' _ _ _) ?_)
 go_wp2
 refine bodyPost_ret (results_tmp hrs _ _ _) rfl ?_
 exact ⟨rfl,rfl⟩
def delCode (T B I U:TypeId):Code:=
  (.seq (.region 0 #[
    ⟨Xa 6, .assign (.const (.slice Xe 0 0)), T, "slices.go:224", #[], Xe⟩] Xc)
  (.seq (.region 1 #[
    ⟨Xa 8, .move (.tmp 0), T, "slices.go:225", #[], Xe⟩,
    ⟨Xa 9, .move (.tmp 1), I, "slices.go:225", #[], Xe⟩,
    ⟨Xa 10, .move (.tmp 2), I, "slices.go:225", #[], Xe⟩,
    ⟨Xa 11, .move (.tmp 0), T, "slices.go:225", #[], Xe⟩,
    ⟨Xa 12, .call ⟨.builtin .len, #[(.tmp 11)], #[T]⟩, I, "slices.go:225", #[⟨3, .data⟩], Xe⟩,
    ⟨Xa 13, .slice T (.tmp 8) (Xa (.tmp 9)) (Xa (.tmp 10)) (Xa (.tmp 12)), T, "slices.go:225", #[⟨0, .data⟩, ⟨1, .data⟩, ⟨2, .data⟩, ⟨4, .data⟩], Xe⟩] Xc)
  (.seq (.seq (.region 2 #[
    ⟨Xa 14, .move (.tmp 1), I, "slices.go:227", #[], Xe⟩,
    ⟨Xa 15, .move (.tmp 2), I, "slices.go:227", #[], Xe⟩,
    ⟨Xa 16, .binOp .eql I (.tmp 14) (.tmp 15) I, B, "slices.go:227", #[⟨0, .data⟩, ⟨1, .data⟩], Xe⟩] Xc)
  (.cond (.tmp 16)
   (.seq (.region 3 #[
     ⟨Xa 17, .move (.tmp 0), T, "slices.go:228", #[], Xe⟩,
     ⟨Xa 6, .assign (.tmp 17), T, "slices.go:228", #[⟨0, .data⟩, ⟨0, .phase⟩], Xe⟩] Xc)
   .ret)
   .skip))
  (.seq (.region 4 #[
    ⟨Xa 18, .move (.tmp 0), T, "slices.go:231", #[], Xe⟩,
    ⟨Xa 19, .call ⟨.builtin .len, #[(.tmp 18)], #[T]⟩, I, "slices.go:231", #[⟨0, .data⟩], Xe⟩,
    ⟨Xa 7, .assign (.tmp 19), I, "slices.go:231", #[⟨1, .data⟩, ⟨0, .phase⟩, ⟨1, .phase⟩], Xe⟩] Xc)
  (.seq (.region 5 #[
    ⟨Xa 20, .move (.tmp 0), T, "slices.go:232", #[], Xe⟩,
    ⟨Xa 21, .move (.tmp 1), I, "slices.go:232", #[], Xe⟩,
    ⟨Xa 22, .slice T (.tmp 20) Xe (Xa (.tmp 21)) Xe, T, "slices.go:232", #[⟨0, .data⟩, ⟨1, .data⟩], Xe⟩,
    ⟨Xa 23, .move (.tmp 0), T, "slices.go:232", #[], Xe⟩,
    ⟨Xa 24, .move (.tmp 2), I, "slices.go:232", #[], Xe⟩,
    ⟨Xa 25, .slice T (.tmp 23) (Xa (.tmp 24)) Xe Xe, T, "slices.go:232", #[⟨3, .data⟩, ⟨4, .data⟩], Xe⟩,
    ⟨Xa 26, .call ⟨.builtin .append, #[(.tmp 22), (.tmp 25)], #[T, T]⟩, T, "slices.go:232", #[⟨2, .data⟩, ⟨5, .data⟩], Xe⟩,
    ⟨Xa 0, .assign (.tmp 26), T, "slices.go:232", #[⟨6, .data⟩, ⟨6, .chain⟩, ⟨0, .phase⟩, ⟨1, .phase⟩, ⟨2, .phase⟩, ⟨3, .phase⟩, ⟨4, .phase⟩, ⟨5, .phase⟩, ⟨6, .phase⟩], Xe⟩] Xb)
  (.seq (.region 6 #[
    ⟨Xa 27, .move (.tmp 0), T, "slices.go:233", #[], Xe⟩,
    ⟨Xa 28, .move (.tmp 0), T, "slices.go:233", #[], Xe⟩,
    ⟨Xa 29, .call ⟨.builtin .len, #[(.tmp 28)], #[T]⟩, I, "slices.go:233", #[⟨1, .data⟩], Xe⟩,
    ⟨Xa 30, .move (.tmp 7), I, "slices.go:233", #[], Xe⟩,
    ⟨Xa 31, .slice T (.tmp 27) (Xa (.tmp 29)) (Xa (.tmp 30)) Xe, T, "slices.go:233", #[⟨0, .data⟩, ⟨2, .data⟩, ⟨3, .data⟩], Xe⟩,
    ⟨Xe, .call ⟨.builtin .clear, #[(.tmp 31)], #[T]⟩, U, "slices.go:233", #[⟨4, .data⟩], Xe⟩] Xc)
  (.seq (.region 7 #[
    ⟨Xa 32, .move (.tmp 0), T, "slices.go:234", #[], Xe⟩,
    ⟨Xa 6, .assign (.tmp 32), T, "slices.go:234", #[⟨0, .data⟩, ⟨0, .phase⟩], Xe⟩] Xc)
  .ret)))))))
theorem K2 (w:World) {ops:Array Oper} {rest:List Oper} {o:Oper} {a:Act} {Q:Exit→Act→World→Prop} (hgd:o.guard=Xe) (d:Operand) (t:TypeId)
  (ho:o.op = .call { callee:=.builtin .clear,args:=#[d],argTypes:=#[t] }) (v:Value) (hd:a.eval d=v) {v':Value} {w':World}
  (hr:(Builtin.clear_ #[t] o.type #[v]).run P w = .ok v' w') (h:wpList P ops Q rest (a.put o.dst v') w'):wpList P ops Q (o::rest) a w:=
 wpList_plain hgd fun _ hK=>by
  unfold Oper.wp execOp
  simp only [ho,resolve,invoke,builtin,Sem.run_bind,Sem.run_pure,Result.andThen_ok,UB,Xk,XL,hd,hr]
  exact hK _ _ h
theorem VA {ops:Array Oper} {o:Oper} {a:Act} {w:World} {K:Act→World→Prop} {Q:Exit→Act→World→Prop} {E:Prop}
  (hg:o.guard=Xe) (d x:Operand) (dT sT:TypeId) (hop:o.op=Op.call { callee:=Callee.builtin Builtin.append,args:=#[d,x],argTypes:=#[dT,sT] })
  (v u:Value) (hd:a.eval d=v) (hx:a.eval x=u) {v':Value} {w':World} (hr:(Builtin.append_ #[dT,sT] o.type #[v,u]).run P w = .ok v' w') (hK:K (a.put o.dst v') w') :
  if Region.wanted o (yielded ops a.tmps)=Xb then Oper.wp P o a w K Q else E:=by
 have hw:Region.wanted o (yielded ops a.tmps)=Xb:=by simp [Region.wanted,hg]
 rw [if_pos hw]
 unfold Oper.wp
 simp [execOp,hop,resolve,invoke,builtin,hd,hx,hr,Result.andThen]
 exact hK
def Yt (U:List Value) (k n i j:Nat):List Value:=U.take (i*k)++(U.drop (j*k)).take ((n-j)*k)++U.drop (i*k+(n-j)*k)
def Zdl (R:List Value) (zc:List Value) (k n q:Nat):List Value:=R.take (q*k)++(XG (n-q) zc).flatten++R.drop (q*k+(n-q)*k)
set_option maxHeartbeats 4000000 in
set_option maxRecDepth 100000 in
theorem ZrD {T B I U e:TypeId} {inf:TypeInfo} {z:Value} {k:Nat} (L:ZcW P T B I e inf z k) {f:FuncId} {fn:Func} (hf:P.funcs[f]? = Xa fn) (hb:fn.body=Xa (delCode T B I U)) (hnt:fn.ntmps=33) (hrs:fn.results = #[.tmp 6])
  (b n c i j:Nat) (cur:Array Value) (w:World) (hij:i < j) (hjn:j≤n) (hnc:n≤c) (hc63:c≤9223372036854775807) (hg:w.heap[b]? = Xa (.cells cur e (0,0))) (hcs:cur.size=c*k)
  (h1c:∀ v∈cur.toList.take (n*k),v.oneCell'=Xb) (h1z:∀ v∈z.cells.toList,v.oneCell'=Xb) :
  Calls P f #[.slice (Xa ⟨b,0,Xe⟩) n c,.int .i64 i,.int .i64 j] w fun e' w'=>
   e' = .returned (.slice (Xa ⟨b,0,Xe⟩) (i+(n-j)) c)∧w'=(w.drew.setRow b (Yt cur.toList k n i j).toArray).setRow b (Zdl (Yt cur.toList k n i j) z.cells.toList k n (i+(n-j))).toArray:=by
 have mixed:=L.mixed
 have t0:=L.tT;have t1:=L.tI;have t2:=L.tB
 have u0:=run_underlying L.tT;have u1:=run_underlying L.tI;have u2:=run_underlying L.tB
 have zsE:∀ w,(Go.sizeOf e).run P w = .ok k w:=fun w=>by rw [Zv L.ie];rw [ZI L.ie,L.sz]
 have hk:=L.pos
 have hn3:(n-j)*k=n*k-j*k:=UV _ _ _
 have hn4:i*k≤j*k:=XF _ (by omega)
 have hn5:n*k≤c*k:=XF _ hnc
 have hn6:j*k≤n*k:=XF _ hjn
 have hn7:(i+(n-j))*k=i*k+(n-j)*k:=XT _ _ _
 have hn8:(n-(i+(n-j)))*k=n*k-(i+(n-j))*k:=UV _ _ _
 have hcl:cur.toList.length=c*k:=by simpa using hcs
 have hR1l:(Yt cur.toList k n i j).length=c*k:=by simp only [Yt,Xr,Xt,XV,hcl];omega
 have hlen:((cur.toList.drop (j*k)).take ((n-j)*k)).length=(n-j)*k:=by rw [Xt,XV,hcl];omega
 have h1n:∀ v∈(cur.toList.drop (j*k)).take ((n-j)*k),v.oneCell'=Xb:=fun v hv=>h1c v (by
    rw [hn3,← List.drop_take] at hv
    exact XS hv)
 have hap:∀ (A:Addr) sc ty,(n-j≠0→A=⟨b,j*k,Xe⟩)→(Builtin.append_ #[T,T] ty #[.slice (Xa ⟨b,0,Xe⟩) i c,.slice (Xa A) (n-j) sc]).run P w.drew = .ok (.slice (Xa ⟨b,0,Xe⟩) (i+(n-j)) c) (w.drew.setRow b (Yt cur.toList k n i j).toArray):=fun A sc ty hA=>by
  have:=run_append_room (P:=P) w.drew T ty e inf L.tT L.ie b i c cur hg A (n-j) sc ((cur.toList.drop (j*k)).take ((n-j)*k)) (by rw [hlen,L.sz]) (fun t u ht=>by
    have hlt:=(Xn.1 ht).1
    rw [hlen] at hlt
    have hne:n-j≠0:=by
     intro h
     rw [h] at hlt
     omega
    rw [hA hne]
    refine Wc (w:=w.drew) hg (l:=(cur.toList.drop (j*k)).take ((n-j)*k)) (fun t u ht=>?_) t u ht
    rw [Xz] at ht
    split at ht
    ·rw [XI] at ht;simpa using ht
    ·cases ht) h1n (by omega) (by rw [hlen,hcs,L.sz];omega)
  rw [hlen,L.sz] at this
  exact this
 obtain ⟨p,hp⟩:∃ p,n-(i+(n-j))=p+1:=⟨n-(i+(n-j))-1,by omega⟩
 have hclr:∀ ty cc,(Builtin.clear_ #[T] ty #[.slice (Xa ⟨b,(i+(n-j))*k,Xe⟩) (n-(i+(n-j))) cc]).run P (w.drew.setRow b (Yt cur.toList k n i j).toArray) = .ok (.tuple #[]) ((w.drew.setRow b (Yt cur.toList k n i j).toArray).setRow b (Zdl (Yt cur.toList k n i j) z.cells.toList k n (i+(n-j))).toArray):=fun ty cc=>by
  have:=Zax (P:=P) (w:=w.drew.setRow b (Yt cur.toList k n i j).toArray) (ty:=ty) (o:=i*k+(n-j)*k) (n:=p) (c:=cc) L.tT L.ie L.zero (YH (w:=w.drew) hg) (by
   have hs:(Yt cur.toList k n i j).toArray.size=c*k:=by simpa using hR1l
   rw [hs,← hp,L.zsz,hn8,hn7];omega) h1z
  rw [← hp,L.zsz,← hn7] at this
  exact this
 have hb0:(i:Int)≤(j:Int):=by omega
 have hb1:(j:Int)≤(n:Int):=by omega
 have hb2:¬ ((i:Int)=(j:Int)):=by omega
 have hb3:(i:Int)≤(n:Int):=by omega
 have hb4:(i:Int)+((n:Int)-(j:Int))≤(n:Int):=by omega
 have hb5:((i+(n-j):Nat):Int)≤(n:Int):=by omega
 have hb6:¬ (c=i+(n-j)):=by omega
 have hic:(i:Int)≤(c:Int):=by omega
 have hjc:(j:Int)≤(c:Int):=by omega
 have hnc':(n:Int)≤(c:Int):=by omega
 obtain ⟨zc,hzc⟩:∃ zc,zc=z.cells.toList:=⟨_,rfl⟩
 rw [← hzc] at hclr ⊢
 clear hg hcs hcl h1c h1z hR1l hlen h1n hn8 hp hn3 hn4 hn5 hn6 hn7 hzc
 refine calls_of_wp hf hb ?_
 rw [hnt]
 simp only [Uk,XN,Up,Nat.reduceAdd,Nat.reduceSub,Tz,TA,TB,TD,X4,X6]
 unfold delCode
 by_cases hcj:c=j
 ·have hnn:n=c:=by omega
  subst hnn
  subst hcj
  have hap':=fun ty=>hap ⟨b,0,Xe⟩ (n-n) ty (by omega)
  simp only [U3,Ug] at hap' hclr hb6 hb5 ⊢
  go_wp2
  go_region_law_o (refine VA rfl _ _ T T rfl _ _ (by simp [Act.eval,Act.put]) (by simp [Act.eval,Act.put]) (hap' _) ?_)
  go_wp2_with (at_builtin;refine K2 _ rfl _ T rfl _ rfl (hclr _ _) ?_)
  refine bodyPost_ret (results_tmp hrs _ _ _) rfl ?_
  exact ⟨rfl,rfl⟩
 ·have hap':=fun ty=>hap ⟨b,j*k,Xe⟩ (c-j) ty (fun _=>rfl)
  go_wp2
  go_region_law_o (refine VA rfl _ _ T T rfl _ _ (by simp [Act.eval,Act.put]) (by simp [Act.eval,Act.put]) (hap' _) ?_)
  go_wp2_with (at_builtin;refine K2 _ rfl _ T rfl _ rfl (hclr _ _) ?_)
  refine bodyPost_ret (results_tmp hrs _ _ _) rfl ?_
  exact ⟨rfl,rfl⟩
def Za3 {α β:Type} (R:α→β→Prop) (A:List α) (B:List β):Prop:=∀ (j:Nat) (z:α) (u:β),A[j]? = Xa z→B[j]? = Xa u→R z u
theorem Za3.app {α β:Type} {R:α→β→Prop} {A A':List α} {B B':List β} (hl:A.length=B.length) (h:Za3 R A B) (h':Za3 R A' B'):Za3 R (A++A') (B++B'):=by
 intro j z u hz hu
 by_cases hj:j < A.length
 ·rw [XE hj] at hz
  rw [XE (by omega)] at hu
  exact h j z u hz hu
 ·rw [XB (by omega)] at hz
  rw [XB (by omega),← hl] at hu
  exact h' _ z u hz hu
theorem Za3.take {α β:Type} {R:α→β→Prop} {A:List α} {B:List β} (h:Za3 R A B) (n:Nat):Za3 R (A.take n) (B.take n):=by
 intro j z u hz hu
 rw [Xz] at hz hu
 split at hz
 ·rename_i hj
  rw [if_pos hj] at hu
  exact h j z u hz hu
 ·cases hz
theorem Za3.drop {α β:Type} {R:α→β→Prop} {A:List α} {B:List β} (h:Za3 R A B) (n:Nat):Za3 R (A.drop n) (B.drop n):=by
 intro j z u hz hu
 rw [XI] at hz hu
 exact h _ z u hz hu
theorem Za3.cut {α β:Type} {R:α→β→Prop} {A:List α} {B:List β} (h:Za3 R A B) (n:Nat):Za3 R A (B.take n):=by
 intro j z u hz hu
 rw [Xz] at hu
 split at hu
 ·exact h j z u hz hu
 ·cases hu
theorem Za3.ext {α β:Type} {R:α→β→Prop} {A:List α} {B C:List β} (h:Za3 R A B) (hl:A.length≤B.length):Za3 R A (B++C):=by
 intro j z u hz hu
 have:=(Xn.1 hz).1
 rw [XE (by omega)] at hu
 exact h j z u hz hu
theorem Zli {U vs:List Value} {k n m i:Nat} (hi:i≤n) (hU:(n+m)*k≤U.length) :
  Zej U vs k n m i=U.take (i*k)++vs++((U.drop (i*k)).take ((n-i)*k)++U.drop ((i+m)*k+(n-i)*k)):=by
 have h1:(i+m)*k=i*k+m*k:=XT _ _ _
 have h2:(n+m)*k=n*k+m*k:=XT _ _ _
 have h3:i*k≤n*k:=XF _ hi
 have hl:(U.take ((i+m)*k)).length=i*k+m*k:=by rw [Xt];omega
 unfold Zej YD
 congr 1
 ·congr 1
  rw [Xw,UY (by omega),List.take_take]
  congr 1
  omega
 ·rw [Xw,List.drop_append_of_le_length (by omega),List.drop_of_length_le (by omega),X4]
theorem Zj3 {U vs R:List Value} {k n m i:Nat} (hv:vs.length=m*k) (hR:i*k+m*k≤R.length) (hRU:R.take (i*k)=U.take (i*k)) :
  Zdw (Vj R vs k m i) U k n m i=U.take (i*k)++vs++((U.drop (i*k)).take ((n-i)*k)++(Vj R vs k m i).drop (i*k+m*k+(n-i)*k)):=by
 have hl:(R.take (i*k)++vs).length=i*k+m*k:=by rw [Xr,Xt,hv];omega
 unfold Zdw
 rw [Xw]
 congr 1
 unfold Vj
 rw [UY (by omega),UA (by omega),hRU]
theorem ZkF {U zc:List Value} {k n i j:Nat} (hij:i≤j) (hj:j≤n) (hU:n*k≤U.length) :
  Zdl (Yt U k n i j) zc k n (i+(n-j))=U.take (i*k)++(U.drop (j*k)).take ((n-j)*k)++
   ((XG (n-(i+(n-j))) zc).flatten++(Yt U k n i j).drop ((i+(n-j))*k+(n-(i+(n-j)))*k)):=by
 have h1:(i+(n-j))*k=i*k+(n-j)*k:=XT _ _ _
 have h2:(n-j)*k=n*k-j*k:=UV _ _ _
 have h3:i*k≤j*k:=XF _ hij
 have h4:j*k≤n*k:=XF _ hj
 have hl:(U.take (i*k)++(U.drop (j*k)).take ((n-j)*k)).length=(i+(n-j))*k:=by rw [Xr,Xt,Xt,XV];omega
 unfold Zdl
 rw [Xw]
 congr 1
 unfold Yt
 rw [UY (by omega),UA (by omega)]
theorem ZfE {w:World} {lim:Nat→Nat} {x:Bool} {e:TypeId} {xs:List (List AV)} {v:Value} {ob:Option Nat} (h:ZY P w lim x e xs v ob) (hne:xs≠[]) (hnm:Zk P e=Xc) :
  ∃ b arr cap,ob=Xa b∧v = .slice (Xa ⟨b,0,Xe⟩) xs.length cap∧w.heap[b]? = Xa (.cells arr e (0,0))∧xs.length≤cap∧cap≤maxLen∧arr.size=cap*P.cellsOf e∧
   (∀ x∈xs,x.length=P.cellsOf e)∧(∀ x∈xs,∀ z∈x,z.isCell=Xb)∧Za3 (Rep w lim) xs.flatten arr.toList∧(∀ b',ob=Xa b'→x=Xb→lim b'=0):=by
 rcases h.noMap hnm with ⟨us,h1,h2,h3,h4,h5,h6⟩ | ⟨h,_⟩
 ·rcases h1.2 with ⟨hv,hn⟩ | ⟨g,cap,cur,hv,hbg,hg,hnc,hcm,hcs,htake⟩
  ·exact (hne (List.eq_nil_of_length_eq_zero hn)).elim
  ·refine ⟨g,cur,cap,by rw [← h2,hv];rfl,hv,hg,hnc,hcm,hcs,h4,h5,fun j z u hz hu=>h6 j z u hz ?_,fun b' hb' hx=>by rw [h3 b' hb',if_pos hx]⟩
   have hj:=(Xn.1 hz).1
   rw [Zh xs _ h4] at hj
   rw [← htake,Xz,if_pos hj]
   exact hu
 ·exact (hne h).elim
theorem ZeU {w:World} {lim:Nat→Nat} {xs:List (List AV)} {us:List Value} (hc:∀ x∈xs,∀ z∈x,z.isCell=Xb) (h:Za3 (Rep w lim) xs.flatten us) (hl:us.length≤xs.flatten.length):∀ v∈us,v.oneCell'=Xb:=by
 intro v hv
 obtain ⟨j,hj⟩:=List.mem_iff_getElem?.1 hv
 have hlt:=(Xn.1 hj).1
 have hz:=Xq (l:=xs.flatten) (i:=j) (by omega)
 obtain ⟨y,hy1,hy2⟩:=List.mem_flatten.1 (List.getElem_mem (l:=xs.flatten) (n:=j) (by omega))
 exact (h j _ v hz hj).oneCell (hc y hy1 _ hy2)
theorem ZU.trans {w w1 w2:World} {l l1 l2:Nat→Nat} {S S1 S2:Nat→Prop} (h:ZU w l w1 l1 S1) (h':ZU w1 l1 w2 l2 S2) (h1:∀ b,S1 b→S b) (h2:∀ b,S2 b→S b∨w.heap.size≤b):ZU w l w2 l2 S where
 os:=h'.os.trans h.os
 tape:=h'.tape.trans h.tape
 output:=h'.output.trans h.output
 size:=Nat.le_trans h.size h'.size
 frz a ha:=(h'.frz a (XO ha h.size)).trans (h.frz a ha)
 blk b hb hn:=by
  have k1:=h.blk b hb fun hs=>hn (h1 b hs)
  have k2:=h'.blk b (XO hb h.size) fun hs=>(h2 b hs).elim hn (fun h=>by omega)
  exact ⟨k2.1.trans k1.1,k2.2.trans k1.2⟩
 ext:=h.ext.trans h'.ext h.size
theorem ZaQ (x:Bool) {f:FuncId} {args:List AV} {e:TypeId} {zs:List (List AV)} (hc:Callable P f) (hnm:Zk P e=Xc)
  (h:∀ (w:World) (lim:Nat→Nat) (X:Nat→Nat→Option Nat) (cargs:List Value),cargs.length≤args.length→(∀ i,ZZ P w lim X (ZW args) i (ZW args i) (cargs.getD i undef))→Zmf X→(∀ i k b,X i k=Xa b→b < w.heap.size)→
   Calls P f cargs.toArray w fun e' w'=>∃ v lim' ob',e' = .returned v∧ZY P w' lim' Xb e zs v ob'∧ZU w lim w' lim' (fun b=>∃ i k,X i k=Xa b)∧∀ b,ob'=Xa b→b < w'.heap.size∧(((∃ i k,X i k=Xa b)∧lim b=0)∨w.heap.size≤b)) (hal:args.length < 1024:=by simp) :
  J0 P f args (.own x e zs) (XG args.length .dead):=by
 refine ⟨hc,Nat.lt_trans hal (by decide),fun w lim X cargs hl hrel hd hs _=>?_⟩
 refine (h w lim X cargs (by omega) hrel hd hs).mono ?_
 rintro e' w' ⟨v,lim1,ob',he,ho1,hw1,hb1⟩
 have hx:∃ lim',ZY P w' lim' x e zs v ob'∧ZU w lim w' lim' (fun b=>∃ i k,X i k=Xa b):=by
  cases x
  case true=>exact ⟨lim1,ho1,hw1⟩
  case false=>
   cases ob' with
   | none =>
    refine ⟨lim1,?_,hw1⟩
    rcases ho1.noMap hnm with ⟨us,h1,h2,h3,h4,h5,h6⟩ | h
    ·exact .inl ⟨us,h1,h2,fun b hb=>(by cases hb),h4,h5,h6⟩
    ·exact .inr (.inl h)
   | some b0 =>
    have hl0:lim1 b0=0:=by
     rcases ho1.noMap hnm with ⟨us,h1,h2,h3,_⟩ | ⟨_,h,_⟩
     ·rw [h3 b0 rfl];rfl
     ·cases h
    have hbb:=hb1 b0 rfl
    have hext:Ext w' lim1 w' (VX lim1 b0 (zs.length*P.cellsOf e)):=fun b _=>by
     refine ⟨?_,fun o u _ hu=>hu⟩
     unfold VX
     split
     ·rename_i h;rw [h,hl0];exact XZ _
     ·exact XA _
    refine ⟨_,Zdv ho1 hnm hext,⟨hw1.os,hw1.tape,hw1.output,hw1.size,hw1.frz,fun b hb hn=>?_,hw1.ext.trans hext hw1.size⟩⟩
    obtain ⟨k1,k2⟩:=hw1.blk b hb hn
    refine ⟨k1,?_⟩
    have hne:b≠b0:=by
     rintro rfl
     rcases hbb.2 with h1 | h1
     ·exact hn h1.1
     ·omega
    show (if b=b0 then _ else lim1 b)=lim b
    rw [if_neg hne]
    exact k2
 obtain ⟨lim',ho,hw⟩:=hx
 have hb:∀ b,ob'=Xa b→b < w'.heap.size∧((∃ i k,X i k=Xa b)∨w.heap.size≤b):=fun b hb=>⟨(hb1 b hb).1,(hb1 b hb).2.imp (·.1) id⟩
 have hat:∀ i,ZW (XG args.length AV.dead++[.own x e zs]) i=if i=args.length then .own x e zs else .dead:=by
  intro i
  unfold ZW
  by_cases hi:i < args.length
  ·rw [XE (by simpa using hi),List.getElem?_replicate,if_pos hi,if_neg (by omega)];rfl
  ·rw [XB (by simpa using hi),List.length_replicate]
   by_cases hi2:i=args.length
   ·subst hi2
    rw [if_pos rfl,U3]
    rfl
   ·rw [if_neg hi2,List.getElem?_eq_none (by simp;omega)]
    rfl
 refine ⟨v,lim',fun i k=>if i=args.length∧k=0 then ob' else Xe,he,hw,by simp,fun i=>?_,?_,?_,?_,fun i k e1 xs1 hi=>?_,fun k e1 xs1 b m1 m2=>?_⟩
 ·rw [hat]
  by_cases hi:i=args.length
  ·subst hi
   rw [if_pos rfl]
   show ZY P w' lim' x e zs _ _
   unfold ZaR
   rw [if_pos rfl]
   show ZY P w' lim' x e zs _ (if args.length=args.length∧0=0 then ob' else Xe)
   rw [if_pos ⟨rfl,rfl⟩]
   exact ho
  ·rw [if_neg hi]
   trivial
 ·intro d k d' k' b h1 h2
  dsimp only at h1 h2
  split at h1
  ·split at h2
   ·rename_i a1 a2
    exact ⟨a1.1.trans a2.1.symm,a1.2.trans a2.2.symm⟩
   ·cases h2
  ·cases h1
 ·intro i k b h1
  dsimp only at h1
  split at h1
  ·exact hb b h1
  ·cases h1
 ·intro i h1
  rw [hat] at h1
  split at h1<;>simp [AV.isG] at h1
 ·exfalso
  have hdead:ZW (XG args.length AV.dead) i = .dead:=by
   unfold ZW
   rw [List.getElem?_replicate]
   split<;>rfl
  rw [hdead] at hi
  cases k<;>cases hi
 ·exfalso
  cases k with
  | succ k => cases x <;> cases m1
  | zero =>
   cases x with
   | false => cases m1
   | true =>
    simp only [Z5,Xf,Prod.mk.injEq] at m1
    rw [← m1.1,ZT hnm] at m2
    cases m2
theorem Zhr {w:World} {lim:Nat→Nat} {e:TypeId} {xs:List (List AV)} {v:Value} {ob:Option Nat} {b:Nat} (h:ZY P w lim Xb e xs v ob) (hb:ob=Xa b):lim b=0:=by
 rcases h with ⟨us,h1,h2,h3,_⟩ | ⟨_,h,_⟩ | ⟨_,⟨_,b',_,_,_,_,_,h,_,_,hl,_⟩ | h | ⟨_,b',_,_,_,_,_,h,_,_,hl,_⟩⟩
 ·rw [h3 b hb];rfl
 ·rw [h] at hb;cases hb
 ·rw [h] at hb;cases hb;exact hl
 ·subst hb;exact h.2.2.lim0
 ·rw [h] at hb;cases hb;exact hl
theorem Zeh {cargs:List Value} (hl:cargs.length≤3) (h:cargs.getD 2 undef≠undef):cargs.toArray = #[cargs.getD 0 undef,cargs.getD 1 undef,cargs.getD 2 undef]:=by
 match cargs,hl,h with
 | [], _, h => exact (h rfl).elim
 | [_], _, h => exact (h rfl).elim
 | [_, _], _, h => exact (h rfl).elim
 | [_, _, _], _, _ => rfl
 | _ :: _ :: _ :: _ :: _, hl, _ => simp at hl
theorem arg_int {w:World} {lim:Nat→Nat} {X:Nat→Nat→Option Nat} {σ:Nat→AV} {d:Nat} {k:IntKind} {z:Int} {v:Value} (h:ZZ P w lim X σ d (.val (.int k z)) v):v = .int k z:=YV (show Rep w lim _ v from h)
structure ZtL (P:Program) (T B I:TypeId) (fO fR:FuncId) (f:FuncId):Prop where
 fn : ∃ fn, P.funcs[f]? = Xa fn ∧ fn.body = Xa (insCode T B I fO fR) ∧ fn.ntmps = 95 ∧ fn.results = #[.tmp 6] ∧ (fn.name == "runtime.NumGoroutine") = Xc
theorem ZrR (x:Bool) {T B I:TypeId} {fO fR:FuncId} {e:TypeId} {inf:TypeInfo} {z:Value} {k:Nat} (L:ZcD P T B I fO e inf z k) {f:FuncId} (hF:ZtL P T B I fO fR f) {xs ys:List (List AV)} {i:Int}
  (h0:0≤i) (hi:i.toNat≤xs.length) (hys:ys≠[]) (hroom:(xs.length+ys.length)*(inf.bytes+1)≤Jc) :
  J0 P f [.own Xb e xs,.val (.int .i64 i),.own Xc e ys] (.own x e (xs.take i.toNat++ys++xs.drop i.toNat)) [.dead,.dead,.dead]:=by
 obtain ⟨fn,hf,hb,hnt,hrs,hname⟩:=hF.fn
 have hce:P.cellsOf e=k:=by rw [ZI L.ie,L.sz]
 have hb1:xs.length+ys.length≤1099511627776:=by
  have:(xs.length+ys.length)*1≤(xs.length+ys.length)*(inf.bytes+1):=UW _ (by omega)
  unfold Jc at hroom
  omega
 have hb2:(xs.length+ys.length)*inf.bytes≤1099511627776:=by
  have:(xs.length+ys.length)*inf.bytes≤(xs.length+ys.length)*(inf.bytes+1):=UW _ (by omega)
  unfold Jc at hroom
  omega
 have hm0:0 < ys.length:=List.length_pos_iff.2 hys
 refine ZaQ x (args:=[.own Xb e xs,.val (.int .i64 i),.own Xc e ys]) ⟨fn,hf,hname,by rw [hb];rfl⟩ L.nm fun w lim X cargs hl hrel hdist hsize=>?_
 have r0:ZY P w lim Xb e xs (cargs.getD 0 undef) (X 0 0):=hrel 0
 have r1:=arg_int (hrel 1)
 have r2:ZY P w lim Xc e ys (cargs.getD 2 undef) (X 2 0):=hrel 2
 obtain ⟨vb,vcur,vc,hX2,hv2,hvg,hmv,hvcm,hvs,hyl,hyc,hyr,_⟩:=ZfE r2 hys L.nm
 have hrep2:=ZY.rep r2 Xc rfl
 rw [Zeh hl (by rw [hv2];simp [undef]),r1]
 have hii:i=((i.toNat:Nat):Int):=by omega
 rw [hii]
 obtain ⟨q,hq⟩:∃ q,q=i.toNat:=⟨_,rfl⟩
 have hqe:(((i.toNat:Nat):Int)).toNat=q:=by omega
 rw [hqe,← hq]
 rw [← hq] at hi
 by_cases hend:q=xs.length
 ·obtain ⟨v',w',lim',ob',hrun,ho,hst,hob⟩:=K4 (ty:=T) L.tT L.ie L.zero (by rw [L.zsz,L.sz]) r0 (.of hrep2) hroom L.nm
  have hvform:∃ base cap,cargs.getD 0 undef = .slice base xs.length cap∧xs.length≤cap:=by
   rcases r0.noMap L.nm with ⟨us,hr,_⟩ | ⟨rfl,_,a,hv⟩
   ·rcases hr.2 with ⟨hv,hn⟩ | ⟨g,cap,cur,hv,_,_,hnc,_⟩
    ·exact ⟨Xe,0,by rw [hv,hn],by omega⟩
    ·exact ⟨_,cap,hv,hnc⟩
   ·exact ⟨_,0,hv,XA _⟩
  obtain ⟨base,cap,hv0,hle⟩:=hvform
  rw [hend,hv0,hv2]
  rw [hv0,hv2] at hrun
  have hty:∀ ty,(Builtin.append_ #[T,T] ty #[.slice base xs.length cap,.slice (Xa ⟨vb,0,Xe⟩) ys.length vc]).run P w = .ok v' w':=fun ty=>hrun
  refine (ZqF L hf hb hnt hrs base xs.length cap _ ys.length vc w w' v' hm0 hle hty).mono ?_
  rintro e' w'' ⟨rfl,rfl⟩
  refine ⟨v',lim',ob',rfl,by rw [List.take_length,List.drop_length,List.append_nil];exact ho,⟨hst.os,hst.tape,hst.output,hst.size,hst.frz,fun b hb hn=>hst.blk b hb fun h=>hn ⟨0,0,h⟩,hst.ext⟩,fun b hb=>?_⟩
  rcases hob with h | h
  ·rw [h] at hb
   exact ⟨XO (hsize 0 0 b hb) hst.size,.inl ⟨⟨0,0,hb⟩,Zhr r0 hb⟩⟩
  ·subst h
   cases hb
   rcases ho.noMap L.nm with ⟨us,g1,g2,_⟩ | ⟨_,h,_⟩
   ·exact ⟨(g1.lt _ g2).2,.inr (XA _)⟩
   ·cases h
 ·have hlt:q < xs.length:=by omega
  have hxs:xs≠[]:=by rintro rfl;simp at hlt
  obtain ⟨b,cur,c,hX0,hv0,hg,hnc,hcm,hcs,hxl,hxc,hxr,hlim⟩:=ZfE r0 hxs L.nm
  have hlb:lim b=0:=hlim b hX0 rfl
  have hvb:vb≠b:=by
   rintro rfl
   have:=(hdist 0 0 2 0 vb hX0 hX2).1
   omega
  rw [hce] at hcs hvs hxl hyl
  have hxf:xs.flatten.length=xs.length*k:=Zh xs k hxl
  have hyf:ys.flatten.length=ys.length*k:=Zh ys k hyl
  have hcl:cur.toList.length=c*k:=by simpa using hcs
  have hvl:vcur.toList.length=vc*k:=by simpa using hvs
  have hn5:xs.length*k≤c*k:=XF _ hnc
  have hn6:ys.length*k≤vc*k:=XF _ hmv
  have hn7:q*k≤xs.length*k:=XF _ hi
  have hn8:(xs.length-q)*k=xs.length*k-q*k:=UV _ _ _
  have hn9:(xs.length+ys.length)*k=xs.length*k+ys.length*k:=XT _ _ _
  have hxt:Za3 (Rep w lim) xs.flatten (cur.toList.take (xs.length*k)):=hxr.cut _
  have hyt:Za3 (Rep w lim) ys.flatten (vcur.toList.take (ys.length*k)):=hyr.cut _
  have h1c:∀ v∈cur.toList.take (xs.length*k),v.oneCell'=Xb:=ZeU hxc hxt (by rw [Xt,hxf];omega)
  have h1v:∀ v∈vcur.toList.take (ys.length*k),v.oneCell'=Xb:=ZeU hyc hyt (by rw [Xt,hyf];omega)
  have hzl:∀ x∈xs.take q++ys++xs.drop q,x.length=k:=by
   intro x hx
   rcases Xs.1 hx with hx | hx
   ·rcases Xs.1 hx with hx | hx
    ·exact hxl x (XP hx)
    ·exact hyl x hx
   ·exact hxl x (XS hx)
  have hzc:∀ x∈xs.take q++ys++xs.drop q,∀ y∈x,y.isCell=Xb:=by
   intro x hx
   rcases Xs.1 hx with hx | hx
   ·rcases Xs.1 hx with hx | hx
    ·exact hxc x (XP hx)
    ·exact hyc x hx
   ·exact hxc x (XS hx)
  have hzn:(xs.take q++ys++xs.drop q).length=xs.length+ys.length:=by
   simp only [Xr,Xt,XV]
   omega
  have heach:∀ rest,Za3 (Rep w lim) (xs.take q++ys++xs.drop q).flatten (cur.toList.take (q*k)++vcur.toList.take (ys.length*k)++((cur.toList.drop (q*k)).take ((xs.length-q)*k)++rest)):=by
   intro rest
   rw [UF,UF,KJ k xs q hxl,KG k xs q hxl]
   refine Za3.app ?_ (Za3.app ?_ (hxr.take _) hyt) (Za3.ext ((hxr.drop _).cut _) ?_)
   ·simp only [Xr,Xt,hxf,hyf,hcl,hvl];omega
   ·simp only [Xt,hxf,hcl];omega
   ·simp only [Xt,XV,hxf,hcl];omega
  rw [hv0,hv2]
  by_cases hr:xs.length+ys.length≤c
  ·refine (Zmn L hf hb hnt hrs b xs.length c q vb ys.length vc cur vcur w hlt hm0 hr (by unfold maxLen at hcm;omega) hvb hg hcs hvg hvs hmv h1c h1v).mono ?_
   rintro e' w' ⟨rfl,rfl⟩
   have s1:ZU w lim (w.drew.setRow b (YD cur.toList k xs.length ys.length q).toArray) lim (fun x=>x=b):=by
    have:=Jp (w:=w.drew) (lim:=lim) (cs:=(YD cur.toList k xs.length ys.length q).toArray) hg hlb
    exact ⟨this.os,this.tape,this.output,this.size,this.frz,this.blk,this.ext⟩
   have s2:=Jp (lim:=lim) (cs:=(Zej cur.toList (vcur.toList.take (ys.length*k)) k xs.length ys.length q).toArray) (YH (w:=w.drew) (cur':=(YD cur.toList k xs.length ys.length q).toArray) hg) hlb
   have s3:ZU w lim _ lim (fun x=>∃ i j,X i j=Xa x):=s1.trans s2 (fun x hx=>⟨0,0,by rw [hx];exact hX0⟩) (fun x hx=>.inl ⟨0,0,by rw [hx];exact hX0⟩)
   have hU:(xs.length+ys.length)*k≤cur.toList.length:=by rw [hcl];exact XF _ hr
   have heq:=Zli (vs:=vcur.toList.take (ys.length*k)) hi hU
   refine ⟨_,lim,Xa b,rfl,?_,s3,fun b' hb'=>?_⟩
   ·have hrow:=Vu (P:=P) (w:=(w.drew.setRow b (YD cur.toList k xs.length ys.length q).toArray).setRow b (Zej cur.toList (vcur.toList.take (ys.length*k)) k xs.length ys.length q).toArray) (lim:=lim) (e:=e)
     (xs:=xs.take q++ys++xs.drop q) (b:=b) (cap:=c) (YH (YH (w:=w.drew) hg)) hlb (by rw [hzn];exact hr) hcm ?_ (by rw [hce];exact hzl) hzc ?_
    ·rw [hzn] at hrow
     exact hrow
    ·rw [hce,Uk,heq]
     simp only [Xr,Xt,XV,hcl,hvl]
     have:(q+ys.length)*k=q*k+ys.length*k:=XT _ _ _
     have:(xs.length+ys.length)*k≤c*k:=XF _ hr
     omega
    ·intro j z u hz hu
     rw [U1,heq] at hu
     exact (heach _ j z u hz hu).mono s3.ext
   ·cases hb'
    exact ⟨XO (hsize 0 0 b hX0) s3.size,.inl ⟨⟨0,0,hX0⟩,hlb⟩⟩
  ·refine (ZnM L hf hb hnt hrs b xs.length c q vb ys.length vc cur vcur w hlt hm0 hnc (by omega) (by omega) (by omega) hg hcs hvg hvs hmv h1c h1v).mono ?_
   rintro e' w' ⟨G,hG1,hG2,rfl,rfl⟩
   obtain ⟨R0,hR0⟩:∃ R0,R0=V4 cur.toList z.cells k xs.length ys.length q G:=⟨_,rfl⟩
   rw [← hR0]
   have hR0s:R0.size=G*k:=by rw [hR0];exact Zbr L.zsz hi hG1 (by rw [hcl];omega)
   have hR0l:R0.toList.length=G*k:=by simpa using hR0s
   have hGk:(xs.length+ys.length)*k≤G*k:=XF _ hG1
   have hvtl:(vcur.toList.take (ys.length*k)).length=ys.length*k:=by rw [Xt,hvl];omega
   have hRU:R0.toList.take (q*k)=cur.toList.take (q*k):=by
    rw [hR0]
    unfold V4
    rw [Ti,Ti]
    rw [Xw,UY (by simp only [Xt,hcl];omega),UA (by simp only [Xt,hcl];omega)]
   have heq:=Zj3 (U:=cur.toList) (n:=xs.length) (i:=q) hvtl (by rw [hR0l];omega) hRU
   obtain ⟨W0,hW0⟩:∃ W0,W0=w.drew.alloc (.cells R0 e):=⟨_,rfl⟩
   obtain ⟨l0,hl0⟩:∃ l0,l0=fun x=>if x=w.heap.size then 0 else lim x:=⟨_,rfl⟩
   have s0:ZU w lim W0 l0 (fun x=>∃ i j,X i j=Xa x):=by
    have:=Yu w.drew lim R0 e 0 (fun x=>∃ i j,X i j=Xa x)
    rw [hW0,hl0]
    exact ⟨this.os,this.tape,this.output,this.size,this.frz,this.blk,this.ext⟩
   have g0:W0.heap[w.heap.size]? = Xa (.cells R0 e (0,0)):=by rw [hW0];exact JW w.drew R0 e
   have hll:l0 w.heap.size=0:=by rw [hl0];exact if_pos rfl
   rw [← hW0]
   obtain ⟨R1,hR1⟩:∃ R1,R1=Vj R0.toList (vcur.toList.take (ys.length*k)) k ys.length q:=⟨_,rfl⟩
   rw [← hR1] at heq ⊢
   obtain ⟨R2,hR2⟩:∃ R2,R2=Zdw R1 cur.toList k xs.length ys.length q:=⟨_,rfl⟩
   rw [← hR2] at heq ⊢
   have hR1l:R1.length=G*k:=by
    rw [hR1]
    simp only [Vj,Xr,hvtl,Xt,XV,hR0l]
    omega
   have s1:=Jp (cs:=R1.toArray) g0 hll
   have g1:((W0.setRow w.heap.size R1.toArray).drew).heap[w.heap.size]? = Xa (.cells R1.toArray e (0,0)):=YH g0
   have s2:=Jp (w:=(W0.setRow w.heap.size R1.toArray).drew) (cs:=R2.toArray) g1 hll
   have s12:ZU w lim (W0.setRow w.heap.size R1.toArray).drew l0 (fun x=>∃ i j,X i j=Xa x):=(s0.trans s1 (fun x hx=>hx) (fun x hx=>.inr (by omega))).drew
   have s3:=s12.trans (S:=fun x=>∃ i j,X i j=Xa x) s2 (fun x hx=>hx) (fun x hx=>.inr (by omega))
   refine ⟨_,l0,Xa w.heap.size,rfl,?_,s3,fun b' hb'=>?_⟩
   ·have hrow:=Vu (P:=P) (w:=((W0.setRow w.heap.size R1.toArray).drew).setRow w.heap.size R2.toArray) (lim:=l0) (e:=e)
     (xs:=xs.take q++ys++xs.drop q) (b:=w.heap.size) (cap:=G) (YH g1) hll (by rw [hzn];exact hG1) hG2 ?_ (by rw [hce];exact hzl) hzc ?_
    ·rw [hzn] at hrow
     exact hrow
    ·rw [hce,Uk,heq]
     simp only [Xr,hvtl,Xt,XV,hcl,hR1l]
     omega
    ·intro j z u hz hu
     rw [U1,heq] at hu
     exact (heach _ j z u hz hu).mono s3.ext
   ·cases hb'
    exact ⟨XO (by have:=(Ua.1 g1).1;exact this) s2.size,.inr (XA _)⟩
set_option maxHeartbeats 4000000 in
set_option maxRecDepth 100000 in
theorem Zoe {T B I U e:TypeId} {inf:TypeInfo} {z:Value} {k:Nat} (L:ZcW P T B I e inf z k) {f:FuncId} {fn:Func} (hf:P.funcs[f]? = Xa fn) (hb:fn.body=Xa (delCode T B I U)) (hnt:fn.ntmps=33) (hrs:fn.results = #[.tmp 6])
  (base:Option Addr) (n c i:Nat) (w:World) (hin:i≤n) (hnc:n≤c) :
  Calls P f #[.slice base n c,.int .i64 i,.int .i64 i] w fun e' w'=>e' = .returned (.slice base n c)∧w'=w:=by
 have mixed:=L.mixed
 have t0:=L.tT;have t1:=L.tI;have t2:=L.tB
 have u0:=run_underlying L.tT;have u1:=run_underlying L.tI;have u2:=run_underlying L.tB
 have zsE:∀ w,(Go.sizeOf e).run P w = .ok k w:=fun w=>by rw [Zv L.ie];rw [ZI L.ie,L.sz]
 have hb0:(i:Int)≤(n:Int):=by omega
 have hb1:(n:Int)≤(c:Int):=by omega
 have hb2:(i:Int)≤(c:Int):=by omega
 refine calls_of_wp hf hb ?_
 rw [hnt]
 simp only [Uk,XN,Up,Nat.reduceAdd,Nat.reduceSub,Tz,TA,TB,TD,X4,X6]
 unfold delCode
 cases base with
 | none =>
  go_wp2
  all_goals
   refine bodyPost_ret (results_tmp hrs _ _ _) rfl ?_
   exact ⟨rfl,rfl⟩
 | some a =>
  obtain ⟨ab,ao,asp⟩:=a
  go_wp2
  all_goals
   refine bodyPost_ret (results_tmp hrs _ _ _) rfl ?_
   exact ⟨rfl,rfl⟩
structure ZtD (P:Program) (T B I U:TypeId) (z:Value) (f:FuncId):Prop where
 fn : ∃ fn, P.funcs[f]? = Xa fn ∧ fn.body = Xa (delCode T B I U) ∧ fn.ntmps = 33 ∧ fn.results = #[.tmp 6] ∧ (fn.name == "runtime.NumGoroutine") = Xc
 one:∀ v∈z.cells.toList,v.oneCell'=Xb
theorem ZsJ (x:Bool) {T B I U e:TypeId} {inf:TypeInfo} {z:Value} {k:Nat} (L:ZcW P T B I e inf z k) {f:FuncId} (hF:ZtD P T B I U z f) {xs:List (List AV)} {i j:Int}
  (h0:0≤i) (hij:i≤j) (hj:j.toNat≤xs.length) :
  J0 P f [.own Xb e xs,.val (.int .i64 i),.val (.int .i64 j)] (.own x e (xs.take i.toNat++xs.drop j.toNat)) [.dead,.dead,.dead]:=by
 obtain ⟨fn,hf,hb,hnt,hrs,hname⟩:=hF.fn
 have hce:P.cellsOf e=k:=by rw [ZI L.ie,L.sz]
 refine ZaQ x (args:=[.own Xb e xs,.val (.int .i64 i),.val (.int .i64 j)]) ⟨fn,hf,hname,by rw [hb];rfl⟩ L.nm fun w lim X cargs hl hrel hdist hsize=>?_
 have r0:ZY P w lim Xb e xs (cargs.getD 0 undef) (X 0 0):=hrel 0
 have r1:=arg_int (hrel 1)
 have r2:=arg_int (hrel 2)
 rw [Zeh hl (by rw [r2];simp [undef]),r1,r2]
 obtain ⟨p,rfl⟩:∃ p:Nat,i=p:=⟨i.toNat,by omega⟩
 obtain ⟨q,rfl⟩:∃ q:Nat,j=q:=⟨j.toNat,by omega⟩
 rw [XQ] at hj ⊢
 rw [XQ]
 have hpq:p≤q:=by omega
 by_cases heq:p=q
 ·subst heq
  have hvform:∃ base cap,cargs.getD 0 undef = .slice base xs.length cap∧xs.length≤cap:=by
   rcases r0.noMap L.nm with ⟨us,hr,_⟩ | ⟨rfl,_,a,hv⟩
   ·rcases hr.2 with ⟨hv,hn⟩ | ⟨g,cap,cur,hv,_,_,hnc,_⟩
    ·exact ⟨Xe,0,by rw [hv,hn],by omega⟩
    ·exact ⟨_,cap,hv,hnc⟩
   ·exact ⟨_,0,hv,XA _⟩
  obtain ⟨base,cap,hv0,hle⟩:=hvform
  rw [hv0] at r0 ⊢
  refine (Zoe L hf hb hnt hrs base xs.length cap p w hj hle).mono ?_
  rintro e' w' ⟨rfl,rfl⟩
  exact ⟨_,lim,X 0 0,rfl,by rw [List.take_append_drop];exact r0,ZU.refl _ _ _,fun b hb=>⟨hsize 0 0 b hb,.inl ⟨⟨0,0,hb⟩,Zhr r0 hb⟩⟩⟩
 ·have hlt:p < q:=by omega
  have hxs:xs≠[]:=by rintro rfl;simp at hj;omega
  obtain ⟨b,cur,c,hX0,hv0,hg,hnc,hcm,hcs,hxl,hxc,hxr,hlim⟩:=ZfE r0 hxs L.nm
  have hlb:lim b=0:=hlim b hX0 rfl
  rw [hce] at hcs hxl
  have hxf:xs.flatten.length=xs.length*k:=Zh xs k hxl
  have hcl:cur.toList.length=c*k:=by simpa using hcs
  have hn5:xs.length*k≤c*k:=XF _ hnc
  have hn7:p*k≤q*k:=XF _ hpq
  have hn8:q*k≤xs.length*k:=XF _ hj
  have hn9:(xs.length-q)*k=xs.length*k-q*k:=UV _ _ _
  have h1c:∀ v∈cur.toList.take (xs.length*k),v.oneCell'=Xb:=ZeU hxc (hxr.cut _) (by rw [Xt,hxf];omega)
  have hzl:∀ x∈xs.take p++xs.drop q,x.length=k:=by
   intro x hx
   rcases Xs.1 hx with hx | hx
   ·exact hxl x (XP hx)
   ·exact hxl x (XS hx)
  have hzc:∀ x∈xs.take p++xs.drop q,∀ y∈x,y.isCell=Xb:=by
   intro x hx
   rcases Xs.1 hx with hx | hx
   ·exact hxc x (XP hx)
   ·exact hxc x (XS hx)
  have hzn:(xs.take p++xs.drop q).length=p+(xs.length-q):=by
   simp only [Xr,Xt,XV]
   omega
  have heach:∀ rest,Za3 (Rep w lim) (xs.take p++xs.drop q).flatten (cur.toList.take (p*k)++(cur.toList.drop (q*k)).take ((xs.length-q)*k)++rest):=by
   intro rest
   rw [UF,KJ k xs p hxl,KG k xs q hxl,Xw]
   refine Za3.app ?_ (hxr.take _) (Za3.ext ((hxr.drop _).cut _) ?_)
   ·simp only [Xt,hxf,hcl];omega
   ·simp only [Xt,XV,hxf,hcl];omega
  rw [hv0]
  refine (ZrD L hf hb hnt hrs b xs.length c p q cur w hlt hj hnc (by unfold maxLen at hcm;omega) hg hcs h1c hF.one).mono ?_
  rintro e' w' ⟨rfl,rfl⟩
  have heq2:=ZkF (U:=cur.toList) (zc:=z.cells.toList) hpq hj (by rw [hcl];exact hn5)
  obtain ⟨R1,hR1⟩:∃ R1,R1=Yt cur.toList k xs.length p q:=⟨_,rfl⟩
  rw [← hR1] at heq2 ⊢
  obtain ⟨R2,hR2⟩:∃ R2,R2=Zdl R1 z.cells.toList k xs.length (p+(xs.length-q)):=⟨_,rfl⟩
  rw [← hR2] at heq2 ⊢
  have hR1l:R1.length=c*k:=by
   rw [hR1]
   simp only [Yt,Xr,Xt,XV,hcl]
   omega
  have s1:ZU w lim (w.drew.setRow b R1.toArray) lim (fun x=>x=b):=by
   have:=Jp (w:=w.drew) (lim:=lim) (cs:=R1.toArray) hg hlb
   exact ⟨this.os,this.tape,this.output,this.size,this.frz,this.blk,this.ext⟩
  have s2:=Jp (lim:=lim) (cs:=R2.toArray) (YH (w:=w.drew) (cur':=R1.toArray) hg) hlb
  have s3:ZU w lim _ lim (fun x=>∃ i j,X i j=Xa x):=s1.trans s2 (fun x hx=>⟨0,0,by rw [hx];exact hX0⟩) (fun x hx=>.inl ⟨0,0,by rw [hx];exact hX0⟩)
  refine ⟨_,lim,Xa b,rfl,?_,s3,fun b' hb'=>?_⟩
  ·have hrow:=Vu (P:=P) (w:=(w.drew.setRow b R1.toArray).setRow b R2.toArray) (lim:=lim) (e:=e)
    (xs:=xs.take p++xs.drop q) (b:=b) (cap:=c) (YH (YH (w:=w.drew) hg)) hlb (by rw [hzn];omega) hcm ?_ (by rw [hce];exact hzl) hzc ?_
   ·rw [hzn] at hrow
    exact hrow
   ·have hfl:((XG (xs.length-(p+(xs.length-q))) z.cells.toList).flatten).length=(xs.length-(p+(xs.length-q)))*k:=by simp [← L.zsz]
    have e1:(p+(xs.length-q))*k=p*k+(xs.length-q)*k:=XT _ _ _
    have e2:(xs.length-(p+(xs.length-q)))*k=xs.length*k-(p+(xs.length-q))*k:=UV _ _ _
    rw [hce,Uk,heq2]
    simp only [Xr,hfl,Xt,XV,hcl,hR1l]
    omega
   ·intro j z u hz hu
    rw [U1,heq2] at hu
    exact (heach _ j z u hz hu).mono s3.ext
  ·cases hb'
   exact ⟨XO (hsize 0 0 b hX0) s3.size,.inl ⟨⟨0,0,hX0⟩,hlb⟩⟩
def ZtH (bytes:Nat) (xs:LL) (i:Int) (ys:LL):Option LL:=
 Zm (0≤i)<|Zm (i≤(xs.length:Int))<|Zm (ys≠[])<|Zm (ZV xs ys bytes)<|some (xs.take i.toNat++ys++xs.drop i.toNat)
def Zsm (xs:LL) (i j:Int):Option LL:=
 Zm (0≤i)<|Zm (i≤j)<|Zm (j≤(xs.length:Int))<|some (xs.take i.toNat++xs.drop j.toNat)
def ZtF (bytes:Nat):List V→Option LL
 | [.l xs, .i i, .l ys] => ZtH bytes xs i ys
 | _ => Xe
def Ztn:List V→Option LL
 | [.l xs, .i i, .i j] => Zsm xs i j
 | _ => Xe
def Zt6 (x:Bool) (e:TypeId) (bytes:Nat):Fun where
 args:=[.c (.own Xb e),.c (.int .i64),.c (.own Xc e)]
 res:=[.c (.own x e)]
 g:=ZtF bytes
def Ztu (x:Bool) (e:TypeId):Fun where
 args:=[.c (.own Xb e),.c (.int .i64),.c (.int .i64)]
 res:=[.c (.own x e)]
 g:=Ztn
def insChk (P:Program) (T B I e:TypeId) (bytes:Nat):Bool:=
 (match P.underlying T with | some (.slice e')=>e' == e | _=>Xc)&&(match P.underlying I with | some (.int k)=>k == .i64 | _=>Xc)&&(match P.underlying B with | some .bool=>Xb | _=>Xc)&&
 match P.info? e with
 | some i => (i.bytes == bytes && !Zk P e) && decide (0 < i.size) && (match i.zero with | some z => z.cells.size == i.size && z.cells.toList.all (fun v => v.oneCell') | none => Xc)
 | none => Xc
theorem Zd3 {T B I e:TypeId} {bytes:Nat} (hm:P.follows .mixedOrders=Xb) (h:insChk P T B I e bytes=Xb) :
  ∃ inf z k,inf.bytes=bytes∧(∀ v∈z.cells.toList,v.oneCell'=Xb)∧ZcW P T B I e inf z k:=by
 simp only [insChk,Xx] at h
 obtain ⟨⟨⟨h1,h2⟩,h3⟩,h4⟩:=h
 split at h1
 case h_2=>cases h1
 rename_i e' hT
 rw [beq_iff_eq] at h1
 subst h1
 split at h2
 case h_2=>cases h2
 rename_i kk hI
 rw [beq_iff_eq] at h2
 subst h2
 split at h3
 case h_2=>cases h3
 rename_i hB
 split at h4
 case h_2=>cases h4
 rename_i inf hinf
 simp only [Xx,beq_iff_eq,decide_eq_true_eq,UK] at h4
 obtain ⟨⟨⟨h5,h8⟩,h6⟩,h7⟩:=h4
 split at h7
 case h_2=>cases h7
 rename_i z hz
 simp only [Xx,beq_iff_eq,XC] at h7
 exact ⟨inf,z,inf.size,h5,fun v hv=>h7.2 v hv,⟨hm,hT,hI,hB,hinf,hz,h7.1,rfl,h6,h8⟩⟩
def Func.looksIns (fn:Func) (T B I:TypeId) (fO fR:FuncId):Prop:=fn.body=Xa (insCode T B I fO fR)∧fn.ntmps=95∧fn.results = #[.tmp 6]
theorem insF_ok {x : Bool} {T B I e : TypeId} {bytes : Nat} {f fO fR : FuncId} {fn fo : Func} (hm : P.follows .mixedOrders = Xb) (hc : insChk P T B I e bytes = Xb) (hf : P.funcs[f]? = Xa fn) (hname : (fn.name == "runtime.NumGoroutine") = Xc)
  (hl : Func.looksIns fn T B I fO fR) (hfo : P.funcs[fO]? = Xa fo) (ho1 : (fo.name == "runtime.NumGoroutine") = Xc) (ho2 : fo.body.isNone = Xb) (ho3 : Extern.findNext fo = Xe)
  (ho4:Extern.find fo=Xa (Extern.SlicesOverlaps.overlaps #[T,T] #[B])):(Zt6 x e bytes).Ok P f:=by
 obtain ⟨inf,z,k,hb,_,hL⟩:=Zd3 hm hc
 have L:ZcD P T B I fO e inf z k:=⟨hL,fun args w=>run_callFunc_extern hfo ho1 ho2 ho3 ho4 args w⟩
 intro vs r h
 have h:ZtF bytes vs=Xa r:=h
 unfold ZtF at h
 split at h
 case h_2=>cases h
 rename_i xs i ys _
 obtain ⟨h0,h⟩:=J5 h
 obtain ⟨h1,h⟩:=J5 h
 obtain ⟨h2,h⟩:=J5 h
 obtain ⟨h3,h⟩:=J5 h
 cases h
 rw [ZV,← hb] at h3
 exact ZrR x L ⟨fn,hf,hl.1,hl.2.1,hl.2.2,hname⟩ h0 (show i.toNat≤xs.length by omega) h2 h3
def Func.looksDel (fn:Func) (T B I U:TypeId):Prop:=fn.body=Xa (delCode T B I U)∧fn.ntmps=33∧fn.results = #[.tmp 6]
theorem delF_ok {x : Bool} {T B I U e : TypeId} {bytes : Nat} {f : FuncId} {fn : Func} (hm : P.follows .mixedOrders = Xb) (hc : insChk P T B I e bytes = Xb) (hf : P.funcs[f]? = Xa fn) (hname : (fn.name == "runtime.NumGoroutine") = Xc)
  (hl:Func.looksDel fn T B I U):(Ztu x e).Ok P f:=by
 obtain ⟨inf,z,k,_,hz,L⟩:=Zd3 hm hc
 intro vs r h
 have h:Ztn vs=Xa r:=h
 unfold Ztn at h
 split at h
 case h_2=>cases h
 rename_i xs i j _
 obtain ⟨h0,h⟩:=J5 h
 obtain ⟨h1,h⟩:=J5 h
 obtain ⟨h2,h⟩:=J5 h
 cases h
 exact ZsJ x L ⟨⟨fn,hf,hl.1,hl.2.1,hl.2.2,hname⟩,hz⟩ h0 h1 (show j.toNat≤xs.length by omega)
end
section
open Go.Shelf Go.RowKit Go.Lib
variable {P:Program}
noncomputable def ZqB (bytes:Nat) (xs:LL) (n:Int):Option LL:=
 Zm (xs = [])<|Zm (0≤n)<|Zm (n.toNat*(bytes+1)≤Jc)<|some []
noncomputable def Zq3 (bytes:Nat):List V→Option LL
 | [.l xs, .i n] => ZqB bytes xs n
 | _ => Xe
noncomputable def ZsP (e:TypeId) (bytes:Nat):Fun where
 args:=[.c (.own Xb e),.c (.int .i64)]
 res:=[.c (.own Xb e)]
 g:=Zq3 bytes
def ZkW (P:Program) (e:TypeId) (bytes:Nat):Bool:=
 match P.info? e with
 | some i => (i.bytes == bytes && !Zk P e) && decide (0 < i.size) && (match i.zero with | some z => z.cells.size == i.size | none => Xc)
 | none => Xc
theorem ZoM {cargs:List Value} (hl:cargs.length≤2) (h:cargs.getD 1 undef≠undef):cargs.toArray = #[cargs.getD 0 undef,cargs.getD 1 undef]:=by
 match cargs,hl,h with
 | [], _, h => exact (h rfl).elim
 | [_], _, h => exact (h rfl).elim
 | [_, _], _, _ => rfl
 | _ :: _ :: _ :: _, hl, _ => simp at hl
theorem Zpy {ρ:Ren} {e:TypeId} {bytes:Nat} {f:FuncId} (L:Go.Proofs.Lays8.n4 P ρ) (hc:ZkW P e bytes=Xb) (he:ρ.t 25=e) (hρ:ρ.f 4=f) (hcall:Callable P f):(ZsP e bytes).Ok P f:=by
 unfold ZkW at hc
 split at hc
 case h_2=>cases hc
 rename_i inf hinf
 simp only [Xx,beq_iff_eq,decide_eq_true_eq,UK] at hc
 obtain ⟨⟨⟨hb,hnm⟩,hpos⟩,hz⟩:=hc
 split at hz
 case h_2=>cases hz
 rename_i z hzero
 simp only [beq_iff_eq] at hz
 have hce:P.cellsOf e=inf.size:=ZI hinf
 intro vs r h
 have h:Zq3 bytes vs=Xa r:=h
 unfold Zq3 at h
 split at h
 case h_2=>cases h
 rename_i xs n _
 obtain ⟨h0,h⟩:=J5 h
 obtain ⟨h1,h⟩:=J5 h
 obtain ⟨h2,h⟩:=J5 h
 cases h
 subst h0
 show J0 P f [.own Xb e [],.val (.int .i64 n)] (.own Xb e []) [.dead,.dead]
 refine ZaQ Xb (args:=[.own Xb e [],.val (.int .i64 n)]) hcall hnm fun w lim X cargs hl hrel hdist hsize=>?_
 have r0:ZY P w lim Xb e [] (cargs.getD 0 undef) (X 0 0):=hrel 0
 have r1:=arg_int (hrel 1)
 rw [ZoM hl (by rw [r1];simp [undef]),r1]
 obtain ⟨p,rfl⟩:∃ p:Nat,n=p:=⟨n.toNat,by omega⟩
 rw [XQ] at h2
 have hp:p≤1099511627776:=by
  have:p*1≤p*(bytes+1):=UW _ (by omega)
  unfold Jc at h2
  omega
 have hpb:p*bytes≤1099511627776:=by
  have:p*bytes≤p*(bytes+1):=UW _ (by omega)
  unfold Jc at h2
  omega
 have hform:∃ base c,∃ cs:List Value,cargs.getD 0 undef = .slice base 0 c∧c≤maxLen∧cs.length=c*inf.size∧(base=Xe→c=0)∧(∀ a,base=Xa a→∀ j v,cs[j]? = Xa v→w.cell? (a.add j)=Xa v):=by
  rcases r0.noMap hnm with ⟨us,hr,_⟩ | ⟨_,_,a,hv⟩
  ·rcases hr.2 with ⟨hv,hn⟩ | ⟨g,cap,cur,hv,_,hg,hnc,hcm,hcs,_⟩
   ·exact ⟨Xe,0,[],by rw [hv],by decide,by simp,fun _=>rfl,fun a h=>by cases h⟩
   ·refine ⟨_,cap,cur.toList,hv,hcm,by rw [Array.length_toList,hcs,hce],(fun h=>by simp at h),fun a ha j v hj=>?_⟩
    obtain rfl:=Xp ha
    rw [Jk,Zl hg]
    simpa using hj
  ·exact ⟨_,0,[],hv,by decide,by simp,fun _=>rfl,fun a _ j v hj=>by simp at hj⟩
 obtain ⟨base,c,cs,hv,hcm,hcl,hnil,hcell⟩:=hform
 by_cases hroom:0+p≤c
 ·rw [hv,← hρ]
  refine (Go.Proofs.Any8.slices_Grow_room L base 0 c p w (XZ _) (by unfold maxLen at hcm;omega) (by omega) hroom).mono ?_
  rintro e' w' ⟨rfl,rfl⟩
  rw [hv] at r0
  exact ⟨_,lim,X 0 0,rfl,r0,ZU.refl _ _ _,fun b hb=>⟨hsize 0 0 b hb,.inl ⟨⟨0,0,hb⟩,Zhr r0 hb⟩⟩⟩
 ·rw [hv,← hρ]
  subst he
  refine (Go.Proofs.Any8.slices_Grow_grow L inf z hinf hzero hpos base 0 c p cs w (XZ _) (by omega) (by rw [hb,XM];omega) (by omega) hcl hnil hcell).mono ?_
  rintro e' w' ⟨rfl,rfl⟩
  have hge:=grownCap_ge w (0+p) c (ρ.t 25)
  have hle:=grownCap_le_maxLen w (0+p) c (ρ.t 25) (by unfold maxLen;omega)
  obtain ⟨G,hG⟩:∃ G,G=grownCap w (0+p) c (ρ.t 25):=⟨_,rfl⟩
  rw [← hG] at hge hle ⊢
  obtain ⟨R,hR⟩:∃ R,R=cs.toArray++Builtin.zeroCells z.cells (0+p-c)++Builtin.zeroCells z.cells (G-(0+p)):=⟨_,rfl⟩
  rw [← hR]
  have hs:R.size=G*inf.size:=by
   rw [hR]
   simp only [Array.size_append,Uk,size_zeroCells,hz,hcl,← XT]
   congr 1
   omega
  have s0:=Yu w.drew lim R (ρ.t 25) 0 (fun x=>∃ i j,X i j=Xa x)
  refine ⟨_,fun x=>if x=w.heap.size then 0 else lim x,Xa w.heap.size,rfl,?_,⟨s0.os,s0.tape,s0.output,s0.size,s0.frz,s0.blk,s0.ext⟩,fun b' hb'=>?_⟩
  ·exact Vu (P:=P) (xs:=[]) (b:=w.heap.size) (cap:=G) (JW w.drew R (ρ.t 25)) (if_pos rfl) (XZ _) hle (by rw [hs,hce]) (fun x hx=>by cases hx) (fun x hx=>by cases hx) fun j z u hz _=>by simp at hz
  ·cases hb'
   refine ⟨by simp,.inr (XA _)⟩
end
end Go.AM
namespace Go.Proofs.Ytigknndkmlhmfaa
open Go Go.Proofs Go.Shelf
def ZkS:Go.Shelf.Ren:=⟨fun | 5=>45 | 8=>72 | 7=>71 | 19=>86 | 20=>87 | 10=>77 | 11=>78 | 12=>79 | 13=>80 | 14=>81 | 15=>82 | 16=>83 | 17=>84 | 18=>85 | 30=>89 | 31=>90 | 32=>91 | 33=>92 | 34=>93 | 35=>94 | 40=>95 | n=>n,fun | 23=>24 | 25=>3 | 3=>3 | 32=>107 | 22=>24 | 0=>0 | 44=>120 | 46=>44 | 4=>4 | 36=>113 | 35=>112 | 41=>76 | 5=>5 | 9=>9 | 53=>123 | 57=>127 | 63=>129 | 64=>109 | n=>n,fun | n=>n⟩
theorem Zjv:Go.Proofs.SlLaysM.n5 Try.prog ZkS:={
 mixed:=by kernel_rfl
 f5:=⟨Try.f45.name,by decide,Try.func45.trans (congrArg Xa (by kernel_rfl))⟩
 f7:=⟨Try.f71.name,by decide,Try.func71.trans (congrArg Xa (by kernel_rfl))⟩
 f8:=Try.func72.trans (congrArg Xa (by kernel_rfl))
 f10:=⟨Try.f77.name,by decide,Try.func77.trans (congrArg Xa (by kernel_rfl))⟩
 f11:=⟨Try.f78.name,by decide,Try.func78.trans (congrArg Xa (by kernel_rfl))⟩
 f12:=⟨Try.f79.name,by decide,Try.func79.trans (congrArg Xa (by kernel_rfl))⟩
 f13:=⟨Try.f80.name,by decide,Try.func80.trans (congrArg Xa (by kernel_rfl))⟩
 f14:=⟨Try.f81.name,by decide,Try.func81.trans (congrArg Xa (by kernel_rfl))⟩
 f15:=⟨Try.f82.name,by decide,Try.func82.trans (congrArg Xa (by kernel_rfl))⟩
 f16:=⟨Try.f83.name,by decide,Try.func83.trans (congrArg Xa (by kernel_rfl))⟩
 f17:=⟨Try.f84.name,by decide,Try.func84.trans (congrArg Xa (by kernel_rfl))⟩
 f18:=⟨Try.f85.name,by decide,Try.func85.trans (congrArg Xa (by kernel_rfl))⟩
 f19:=Try.func86.trans (congrArg Xa (by kernel_rfl))
 f20:=Try.func87.trans (congrArg Xa (by kernel_rfl))
 f30:=⟨Try.f89.name,by decide,Try.func89.trans (congrArg Xa (by kernel_rfl))⟩
 f31:=Try.func90.trans (congrArg Xa (by kernel_rfl))
 f32:=Try.func91.trans (congrArg Xa (by kernel_rfl))
 f33:=⟨Try.f92.name,by decide,Try.func92.trans (congrArg Xa (by kernel_rfl))⟩
 f34:=⟨Try.f93.name,by decide,Try.func93.trans (congrArg Xa (by kernel_rfl))⟩
 f35:=⟨Try.f94.name,by decide,Try.func94.trans (congrArg Xa (by kernel_rfl))⟩
 f40:=⟨Try.f95.name,by decide,Try.func95.trans (congrArg Xa (by kernel_rfl))⟩
 t0:=Try.underlying0
 a0:=Try.isAgg0
 z0:=Try.sizeOf0
 v0:=Try.zeroValue0
 t3:=Try.underlying3
 a3:=Try.isAgg3
 z3:=Try.sizeOf3
 v3:=Try.zeroValue3
 t4:=Try.underlying4
 a4:=Try.isAgg4
 z4:=Try.sizeOf4
 v4:=Try.zeroValue4
 t5:=Try.underlying5
 a5:=Try.isAgg5
 z5:=Try.sizeOf5
 v5:=Try.zeroValue5
 t9:=Try.underlying9
 a9:=Try.isAgg9
 z9:=Try.sizeOf9
 v9:=Try.zeroValue9
 t22:=Try.underlying24
 a22:=Try.isAgg24
 z22:=Try.sizeOf24
 v22:=Try.zeroValue24
 t23:=Try.underlying24
 a23:=Try.isAgg24
 z23:=Try.sizeOf24
 v23:=Try.zeroValue24
 t25:=Try.underlying3
 a25:=Try.isAgg3
 z25:=Try.sizeOf3
 v25:=Try.zeroValue3
 t32:=Try.underlying107
 a32:=Try.isAgg107
 z32:=Try.sizeOf107
 v32:=Try.zeroValue107
 t35:=Try.underlying112
 a35:=Try.isAgg112
 z35:=Try.sizeOf112
 v35:=Try.zeroValue112
 t36:=Try.underlying113
 a36:=Try.isAgg113
 z36:=Try.sizeOf113
 v36:=Try.zeroValue113
 t41:=Try.underlying76
 a41:=Try.isAgg76
 z41:=Try.sizeOf76
 v41:=Try.zeroValue76
 t44:=Try.underlying120
 a44:=Try.isAgg120
 z44:=Try.sizeOf120
 v44:=Try.zeroValue120
 t46:=Try.underlying44
 a46:=Try.isAgg44
 z46:=Try.sizeOf44
 v46:=Try.zeroValue44
 t53:=Try.underlying123
 a53:=Try.isAgg123
 z53:=Try.sizeOf123
 v53:=Try.zeroValue123
 t57:=Try.underlying127
 a57:=Try.isAgg127
 z57:=Try.sizeOf127
 v57:=Try.zeroValue127
 t63:=Try.underlying129
 a63:=Try.isAgg129
 z63:=Try.sizeOf129
 v63:=Try.zeroValue129
 t64:=Try.underlying109
 a64:=Try.isAgg109
 z64:=Try.sizeOf109
 v64:=Try.zeroValue109 }
theorem Zke (p:Option Addr) (cap:Nat) (w:World):Calls Try.prog 45 #[.slice p 0 cap] w fun e w'=>e = .returned (.tuple #[])∧w'=w:=AnyM.slices_Sort_int_none Zjv p cap w
open Go Go.AM Go.RowKit Go.Shelf Go.Sort Go.Proofs
theorem Zl6:W4 Try.prog [45]:=by
 intro f hf
 obtain rfl:=List.mem_singleton.1 hf
 refine ⟨⟨Try.f45,Try.func45,by kernel_rfl,by kernel_rfl⟩,Zke,?_⟩
 intro w lim b cap arr e zs hne hlen hcap hcm hsz hb hlb htake
 have hH:Holds (Value.int .i64) w b 0 zs.toArray:=holds_of_blockI hb htake
 have hbl:b < w.heap.size:=(Ua.1 hb).1
 have hs:Calls Try.prog 45 #[.slice (Xa ⟨b,0,Xe⟩) zs.length cap] w fun e w'=>e = .returned (.tuple #[])∧∃ n os,w'=grow (putRow (Value.int .i64) (Sort.ahead w n) b 0 (zs.mergeSort fun x y=>decide (x≤y)).toArray) os:=
  AnyM.slices_Sort_int Zjv b 0 cap zs w hH hbl (by omega)
 refine hs.mono ?_
 rintro e' w' ⟨rfl,q,os,rfl⟩
 have hml:(zs.mergeSort fun x y=>decide (x≤y)).length=zs.length:=List.length_mergeSort zs
 have hg:=grownBy_sortedI (w:=w) (g:=b) (n:=q) (os:=os) (zs.mergeSort fun x y=>decide (x≤y)).toArray
 have hh:=heap_sortedI (n:=q) (os:=os) (zs.mergeSort fun x y=>decide (x≤y)).toArray hb
 refine ⟨rfl,_,hh,by simp [putCells],?_,?_⟩
 ·have:=take_putCellsI arr (zs.mergeSort fun x y=>decide (x≤y)) (by rw [hml];omega)
  rw [hml] at this
  exact this
 ·obtain ⟨g1,g2,g3,g4,g5⟩:=hg
  have hcell:∀ i,i < w.heap.size→i≠b→(grow (putRow (Value.int .i64) (Sort.ahead w q) b 0 (zs.mergeSort fun x y=>decide (x≤y)).toArray) os).heap[i]? = w.heap[i]?:=fun i hi hib=>g5 i hi fun h=>hib (Xp h)
  refine ⟨rfl,rfl,rfl,g4,fun a ha=>?_,fun i hi hib=>⟨hcell i hi hib,rfl⟩,fun i hi=>⟨XA _,fun o u ho hu=>?_⟩⟩
  ·unfold World.frozen?
   by_cases hab:a.block=b
   ·rw [hab,hh,hb]
   ·rw [hcell _ ha hab]
  ·by_cases hib:i=b
   ·subst hib;rw [hlb] at ho;omega
   ·unfold World.cell? at hu ⊢
    dsimp only at hu ⊢
    rw [hcell i hi hib]
    exact hu
end Go.Proofs.Ytigknndkmlhmfaa
