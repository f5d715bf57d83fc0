import Derived.Test.YtjldbnbdcmfbmaaGreatM2
import Derived.ChangeArms
import Derived.ChangeStays
import Derived.ChangeBook
import Derived.ChangeSame
import Derived.RowKit
import Derived.ChangeOld
import GoSem.ClaimJoined
import GoSem.ClaimOpenFrom
import Derived.KernelRfl
import Derived.SizedLaws
open Option renaming some→Xa,none→Xe,map_some→XC
open Bool renaming true→Xb,false→Xc,and_eq_true→Xj
open List renaming length_append→Xf,length_map→Xk,append_assoc→Xl,length_nil→Xm,map_cons→Xn,all_eq_true→Xo,getElem?_eq_getElem→Xp,mem_cons→Xs,mem_of_getElem?→Xt,length_cons→Xv,getElem?_map→Xy,mem_append→Xz,getElem?_eq_some_iff→XA,mem_map→XB,flatten_cons→XD,getElem?_append_right→XH,map_nil→XI,getElem?_append_left→XL,nil_append→XM,getElem?_cons_zero→XQ,all_cons→XU,cons_append→XV,append_nil→XY,mem_iff_getElem?→Uj,getElem?_cons_succ→Uz,mem_append_left→TA,mem_cons_of_mem→TQ,mem_append_right→TU
open Option.some renaming injEq→Xg
open Nat renaming le_refl→Xr,add_assoc→Ui
set_option linter.unusedVariables false
set_option linter.unusedSimpArgs false
set_option linter.defProp false
namespace Go.AM
noncomputable section
@[reducible] def Sh.T:Sh→Type
 | .int _ => Int
 | .bool => Bool
 | .str => ByteArray
 | .slice _ => List (List AV)
 | .own _ _ => List (List AV)
@[reducible] def ShsT:List Sh→Type
 | [] => Unit
 | [s] => s.T
 | s :: t :: r => s.T × ShsT (t :: r)
def Sh.toV:(s:Sh)→s.T→V
 | .int _, z => .i z
 | .bool, z => .b z
 | .str, z => .s z
 | .slice _, z => .l z
 | .own _ _, z => .l z
def Sh.ofV:(s:Sh)→V→Option s.T
 | .int _, .i z => Xa z
 | .bool, .b z => Xa z
 | .str, .s z => Xa z
 | .slice _, .l z => Xa z
 | .own _ _, .l z => Xa z
 | _, _ => Xe
def ZeQ:(l:List Sh)→ShsT l→List V
 | [], _ => []
 | [s], x => [s.toV x]
 | s :: t :: r, x => s.toV x.1 :: ZeQ (t :: r) x.2
def ZtH:(l:List Sh)→List V→Option (ShsT l)
 | [], [] => Xa ()
 | [], _ :: _ => Xe
 | [s], [v] => s.ofV v
 | [_], [] => Xe
 | [_], _ :: _ :: _ => Xe
 | _ :: _ :: _, [] => Xe
 | s :: t :: r, v :: vs => match s.ofV v, ZtH (t :: r) vs with | some a, Xa b => Xa (a, b) | _, _ => Xe
def ZqC {s:Sh} {v:V} {x:s.T} (h:s.ofV v=Xa x):s.toV x=v:=by
 cases s<;>cases v<;>simp [Sh.ofV] at h<;>subst h<;>rfl
def ZjU:∀ (l:List Sh) (vs:List V) (x:ShsT l),ZtH l vs=Xa x→ZeQ l x=vs
 | [], [], _, _ => rfl
 | [], _ :: _, _, h => by simp [ZtH] at h
 | [s], [v], x, h => by simp only [ZeQ, ZqC (show s.ofV v = Xa x from h)]
 | [_], [], _, h => by simp [ZtH] at h
 | [_], _ :: _ :: _, _, h => by simp [ZtH] at h
 | _ :: _ :: _, [], _, h => by simp [ZtH] at h
 | s :: t :: r, v :: vs, x, h => by
  simp only [ZtH] at h;split at h
  ·rename_i a b c d;simp only [Xg] at h;subst h;simp only [ZeQ,ZqC c,ZjU (t::r) vs b d]
  ·cases h
def Sh.ofE:(s:Sh)→AV→Option s.T
 | .int k, .val (.int k' z) => if k' = k then Xa z else Xe
 | .bool, .val (.bool b) => Xa b
 | .str, .val (.string b) => Xa b
 | .slice s, .slice Xc s' xs => if s' = s then Xa xs else Xe
 | _, _ => Xe
def Zqa:(l:List Sh)→List AV→Option (ShsT l)
 | [], [] => Xa ()
 | [], _ :: _ => Xe
 | [s], [c] => s.ofE c
 | [_], [] => Xe
 | [_], _ :: _ :: _ => Xe
 | _ :: _ :: _, [] => Xe
 | s :: t :: r, c :: cs => match s.ofE c, Zqa (t :: r) cs with | some a, Xa b => Xa (a, b) | _, _ => Xe
def Zp0 {s:Sh} {c:AV} {x:s.T} {n:Nat} {ρ:Nat→V} (h:s.ofE c=Xa x) (a:ρ n=s.toV x):(KT s n).den ρ=c:=by
 unfold Sh.ofE at h;split at h
 ·split at h
  ·simp only [Xg] at h;subst h;rename_i b;subst b;simp only [KT,SC.den,IE.den,a,Sh.toV,V.int]
  ·cases h
 ·simp only [Xg] at h;subst h;simp only [KT,SC.den,BE.den,a,Sh.toV,V.bool]
 ·simp only [Xg] at h;subst h;simp only [KT,SC.den,SE.den,a,Sh.toV,V.str]
 ·split at h
  ·simp only [Xg] at h;subst h;rename_i b;subst b;simp only [KT,SC.den,LE.den,a,Sh.toV,V.list]
  ·cases h
 ·cases h
def Zmf:∀ (l:List Sh) (cs:List AV) (x:ShsT l) (n:Nat) (ρ:Nat→V),Zqa l cs=Xa x→Zm4 ρ n (ZeQ l x)→(JF l n).map (SC.den ρ)=cs
 | [], [], _, _, _, _, _ => rfl
 | [], _ :: _, _, _, _, h, _ => by simp [Zqa] at h
 | [s], [c], x, n, ρ, h, hf => by
  have d:=hf 0 _ (show (ZeQ [s] x)[0]? = Xa (s.toV x) from rfl);rw [Nat.add_zero] at d;simp only [JF,Xn,XI,Zp0 (show s.ofE c=Xa x from h) d]
 | [_], [], _, _, _, h, _ => by simp [Zqa] at h
 | [_], _ :: _ :: _, _, _, _, h, _ => by simp [Zqa] at h
 | _ :: _ :: _, [], _, _, _, h, _ => by simp [Zqa] at h
 | s :: t :: r, c :: cs, x, n, ρ, h, hf => by
  simp only [Zqa] at h;split at h
  ·rename_i a b e f;simp only [Xg] at h;subst h;obtain ⟨d,g⟩:=Zm4.tail (show Zm4 ρ n (s.toV a::ZeQ (t::r) b) from hf);have i:=Zmf (t::r) cs b (n+1) ρ f g;rw [JF,Xn,Zp0 e d,i]
  ·cases h
def Zy {γ:Type} (p:Prop) [Decidable p] (x:Option γ):Option γ:=if p then x else Xe
def Zg {γ:Type} {p:Prop} {_:Decidable p} (h:p) (x:Option γ):Zy p x=x:=P4 h
def Zqj {γ:Type} {p:Prop} {_:Decidable p} {x:Option γ} {r:γ} (h:Zy p x=Xa r):p∧x=Xa r:=by
 unfold Zy at h;split at h
 ·exact ⟨‹_›,h⟩
 ·cases h
def Zvw:Value→Value→Bool
 | .int k z, .int k' z' => decide (k = k') && decide (z = z')
 | .bool b, .bool b' => b == b'
 | .string s, .string s' => decide (s = s')
 | _, _ => Xc
def ZeH {a b:Value} (h:Zvw a b=Xb):a=b:=by
 unfold Zvw at h;split at h
 ·simp only [Xj,P5] at h;rw [h.1,h.2]
 ·rw [beq_iff_eq] at h;rw [h]
 ·rw [P5] at h;rw [h]
 ·cases h
def Zu8 {c:Type} (q:c→c→Bool):List c→List c→Bool
 | [], [] => Xb
 | a :: aZ, b :: bs => q a b && Zu8 q aZ bs
 | _, _ => Xc
def V0 {e:Type} {q:e→e→Bool} (f:∀ a b,q a b=Xb→a=b):∀ (c d:List e),Zu8 q c d=Xb→c=d
 | [], [], _ => rfl
 | [], _ :: _, h => by cases h
 | _ :: _, [], h => by cases h
 | a :: c, b :: d, h => by
  simp only [Zu8,Xj] at h;rw [f a b h.1,V0 f c d h.2]
def Zzn:Nat→AV→AV→Bool
 | _, .val a, .val b => Zvw a b
 | n + 1, .slice f s xs, .slice f' s' ys => f == f' && (decide (s = s') && Zu8 (Zu8 (Zzn n)) xs ys)
 | _, _, _ => Xc
def ZoB:∀ (n:Nat) (a b:AV),Zzn n a b=Xb→a=b:=by
 intro n
 induction n with
 | zero =>
  intro a b h;unfold Zzn at h;split at h
  ·rw [ZeH h]
  ·rename_i c;cases c
  ·cases h
 | succ n ih =>
  intro a b h;unfold Zzn at h;split at h
  ·rw [ZeH h]
  ·rename_i c
   cases c
   simp only [Xj,beq_iff_eq,P5] at h;rw [h.1,h.2.1,V0 (fun x y d=>V0 ih x y d) _ _ h.2.2]
  ·cases h
open Classical in
noncomputable instance decLL:DecidableEq (List (List AV)):=fun a b=>if h:Zu8 (Zu8 (Zzn 8)) a b=Xb then isTrue (V0 (fun x y hxy=>V0 (ZoB 8) x y hxy) _ _ h) else propDecidable _
@[reducible] def Sh.dec:(s:Sh)→DecidableEq s.T
 | .int _ => inferInstanceAs (DecidableEq Int)
 | .bool => inferInstanceAs (DecidableEq Bool)
 | .str => inferInstanceAs (DecidableEq ByteArray)
 | .slice _ => decLL
 | .own _ _ => decLL
@[reducible] def decS:(l:List Sh)→DecidableEq (ShsT l)
 | [] => inferInstanceAs (DecidableEq Unit)
 | [s] => s.dec
 | s :: t :: r => @instDecidableEqProd _ _ s.dec (decS (t :: r))
def ZDb {γ:Type} [d:DecidableEq γ] (l:List (List AV)) (k:Bool→Option γ):Option γ:=
 match l with
 | [] => if k Xb = k Xc then k Xb else Xe
 | _ :: _ => k Xc
def ZoP {γ:Type} {d:DecidableEq γ} {l:List (List AV)} {k:Bool→Option γ} {r:γ} (h:ZDb l k=Xa r) (b:Bool) (a:b=Xb→l = []):k b=Xa r:=by
 unfold ZDb at h;split at h
 ·split at h
  ·rename_i c
   cases b
   ·rw [← c];exact h
   ·exact h
  ·cases h
 ·cases b
  ·exact h
  ·cases a rfl
def Zj {γ:Type} (l:List (List AV)) (i:Int) (sh:List Sh) (k:ShsT sh→Option γ):Option γ:=
 if 0≤i then match l[i.toNat]? with | some cs=>(match Zqa sh cs with | some r=>k r | none=>Xe) | none=>Xe else Xe
def Y2 {γ:Type} {l:List (List AV)} {i:Int} {sh:List Sh} {cs:List AV} {r:ShsT sh} (k:ShsT sh→Option γ) (a:0≤i) (b:l[i.toNat]? = Xa cs) (c:Zqa sh cs=Xa r):Zj l i sh k=k r:=by
 simp only [Zj,a,if_true,b,c]
def Zob {γ:Type} {l:List (List AV)} {i:Int} {sh:List Sh} {k:ShsT sh→Option γ} {x:γ} (h:Zj l i sh k=Xa x):0≤i∧∃ cs r,l[i.toNat]? = Xa cs∧Zqa sh cs=Xa r∧k r=Xa x:=by
 unfold Zj at h;split at h
 ·refine ⟨‹_›,?_⟩;split at h
  ·split at h
   ·exact ⟨_,_,‹_›,‹_›,h⟩
   ·cases h
  ·cases h
 ·cases h
def Ze5 {γ:Type} (F:(List V→Option γ)→List V→Option γ):Nat→List V→Option γ
 | 0 => fun _ => Xe
 | k + 1 => F (Ze5 F k)
def Zr:Nat:=1208925819614629174706176
inductive AP where
 | c (s : Sh)
 | agg (l : List Sh)
 | box (l : List Sh)
 | gbox (l : List Sh)
 | clo (g : FuncId) (ds : List Nat)
 | dead
def RSh.sh:RSh→List Sh
 | .c s => [s]
 | .agg l => l
def Kj:List AP→List Sh
 | [] => []
 | .box l :: r => l ++ Kj r
 | .gbox l :: r => l ++ Kj r
 | _ :: r => Kj r
def Zcj (rs:List RSh) (aps:List AP):List Sh:=rs.flatMap RSh.sh++Kj aps
structure Fun where
 args:List AP
 res:List RSh
 g:List V→Option (ShsT (Zcj res args))
def WG (r:RSh) (us:List V) (j:Nat):AV:=
 match r with
 | .c s => Vy s (vAt us j)
 | .agg l => .agg (JM l us j)
def Kh:List RSh→List V→Nat→List AV
 | [], _, _ => []
 | r :: rs, us, j => WG r us j :: Kh rs us (j + r.sh.length)
def Wy (rs:List RSh) (us:List V) (j:Nat):AV:=
 match rs with
 | [r] => WG r us j
 | rs => .tuple (Kh rs us j)
def JK:List AP→List V→Nat→List AV
 | [], _, _ => []
 | .box l :: r, us, j => .box (JM l us j) :: JK r us (j + l.length)
 | .gbox l :: r, us, j => .gbox (JM l us j) :: JK r us (j + l.length)
 | _ :: r, us, j => .dead :: JK r us j
def AP.n:AP→Nat
 | .c _ => 1
 | .agg l => l.length
 | .box l => l.length
 | .gbox l => l.length
 | .clo _ _ => 0
 | .dead => 0
def Zpe (a:AP) (us:List V) (j:Nat):AV:=
 match a with
 | .c s => Vy s (vAt us j)
 | .agg l => .agg (JM l us j)
 | .box l => .box (JM l us j)
 | .gbox l => .gbox (JM l us j)
 | .clo g ds => .clo g ds
 | .dead => .dead
def VV:List AP→List V→Nat→List AV
 | [], _, _ => []
 | a :: r, us, j => Zpe a us j :: VV r us (j + a.n)
def ZmA (rs:List RSh):Nat:=(rs.flatMap RSh.sh).length
def Fun.Ok (P:Program) (f:FuncId) (S:Fun):Prop:=
 ∀ vs r,S.g vs=Xa r→Kg P f (VV S.args vs 0) (Wy S.res (ZeQ _ r) 0) (JK S.args (ZeQ _ r) (ZmA S.res))
def Zre (P:Program):List (FuncId×Fun)→Prop
 | [] => True
 | p :: r => p.2.Ok P p.1 ∧ Zre P r
def AP.sig:AP→Option (FuncId×List Nat)
 | .clo g ds => Xa (g, ds)
 | _ => Xe
def SV.sig:SV→Option (FuncId×List Nat)
 | .clo g ds => Xa (g, ds)
 | _ => Xe
def ZpP:List (FuncId×Fun)→FuncId→List (FuncId×List Nat)→Option Fun
 | [], _, _ => Xe
 | p :: r, f, sg => if p.1 = f ∧ p.2.args.filterMap AP.sig = sg then Xa p.2 else ZpP r f sg
def ZlV {P:Program} : ∀ {Φ:List (FuncId×Fun)} {f:FuncId} {b:List (FuncId×List Nat)} {S:Fun},Zre P Φ→ZpP Φ f b=Xa S→S.Ok P f
 | [], _, _, _, _, h => by simp [ZpP] at h
 | p :: r, f, b, S, ho, h => by
  simp only [ZpP] at h;split at h
  ·rename_i a;simp only [Xg] at h;obtain ⟨a,_⟩:=a;subst a;subst h;exact ho.1
  ·exact ZlV ho.2 h
def Zwd (P:Program):Sh→AV→Option V
 | .int k, .val (.int k' z) => if k' = k then Xa (.i z) else Xe
 | .bool, .val (.bool b) => Xa (.b b)
 | .str, .val (.string s) => Xa (.s s)
 | .slice s, .slice _ s' xs => if s' = s then Xa (.l xs) else (match xs with | [] => Xa (.l []) | _ :: _ => Xe)
 | .slice s, .own x e xs => if P.cellsOf e = s then (match x, xs with | false, xs => Xa (.l xs) | true, [] => Xa (.l []) | true, _ :: _ => Xe) else Xe
 | .own x e, .own x' e' xs => if e' = e then (match x, x', xs with | false, Xc, xs => Xa (.l xs) | true, Xb, xs => Xa (.l xs) | _, _, [] => Xa (.l []) | _, _, _ :: _ => Xe) else Xe
 | .own _ _, .slice Xb _ xs => (match xs with | [] => Xa (.l []) | _ :: _ => Xe)
 | _, _ => Xe
def ZgL (P:Program):List Sh→List AV→Option (List V)
 | [], [] => Xa []
 | s :: ss, c :: cs => match Zwd P s c, ZgL P ss cs with | some v, Xa vs => Xa (v :: vs) | _, _ => Xe
 | _, _ => Xe
def ZAg (P:Program):AP→AV→Option (List V)
 | .c s, x => (Zwd P s x).map fun v => [v]
 | .agg l, .agg cs => if l.all Sh.imm = Xb then ZgL P l cs else Xe
 | .box l, .box cs => ZgL P l cs
 | .gbox l, .gbox cs => ZgL P l cs
 | .clo g ds, .clo g' ds' => if g' = g ∧ ds' = ds then Xa [] else Xe
 | .dead, .dead => Xa []
 | _, _ => Xe
def Zez (P:Program):List AP→List AV→Option (List V)
 | [], [] => Xa []
 | a :: aZ, x :: xs => match ZAg P a x, Zez P aZ xs with | some vs, Xa us => Xa (vs ++ us) | _, _ => Xe
 | _, _ => Xe
def ZpW {P:Program} {s:Sh} {c:AV} {v:V} (h:Zwd P s c=Xa v):KP P c (Vy s v):=by
 unfold Zwd at h;split at h
 ·split at h
  ·simp only [Xg] at h;subst h;rename_i a;subst a;exact .same (.inl rfl)
  ·cases h
 ·simp only [Xg] at h;subst h;exact .same (.inl rfl)
 ·simp only [Xg] at h;subst h;exact .same (.inl rfl)
 ·split at h
  ·simp only [Xg] at h;subst h;rename_i a;subst a;exact .imm
  ·split at h
   ·simp only [Xg] at h;subst h;exact .immN
   ·cases h
 ·split at h
  ·rename_i a;subst a;split at h
   ·simp only [Xg] at h;subst h;exact .own
   ·simp only [Xg] at h;subst h;exact .ownZ
   ·cases h
  ·cases h
 ·split at h
  ·rename_i a;subst a;split at h
   ·simp only [Xg] at h;subst h;exact .same (.inr ⟨_,_,_,rfl⟩)
   ·simp only [Xg] at h;subst h;exact .same (.inr ⟨_,_,_,rfl⟩)
   ·simp only [Xg] at h;subst h;exact .ownN
   ·cases h
  ·cases h
 ·split at h
  ·simp only [Xg] at h;subst h;exact .give
  ·cases h
 ·cases h
def Zc7 {P:Program} : ∀ (l:List Sh) (cs:List AV) (vs:List V),ZgL P l cs=Xa vs→vs.length=l.length∧cs.length=l.length∧∀ b a:List V,
  ∀ (i:Nat) (c c':AV),cs[i]? = Xa c→(JM l (b++vs++a) b.length)[i]? = Xa c'→KP P c c'
 | [], [], vs, h => by
  simp only [ZgL,Xg] at h;subst h;exact ⟨rfl,rfl,fun _ _ i c c' h=>by simp at h⟩
 | [], _ :: _, _, h => by simp [ZgL] at h
 | _ :: _, [], _, h => by simp [ZgL] at h
 | s :: ss, c :: cs, us, h => by
  simp only [ZgL] at h;split at h
  ·rename_i v vs g f;simp only [Xg] at h;subst h;obtain ⟨j,k,m⟩:=Zc7 (P:=P) ss cs vs f;refine ⟨by simp [j],by simp [k],fun b a i o p e d=>?_⟩
   cases i with
   | zero =>
    simp only [JM,XQ,Xg] at e d;subst e;subst d;rw [Xl,XV,W6];exact ZpW g
   | succ i =>
    have:=m (b++[v]) a i o p (by simpa using e);simp only [Xl,XV,XM,Xf,Xv,Xm] at this;simp only [JM,Uz,Xl,XV] at d;exact this d
  ·cases h
def ZxS {P:Program} {a:AP} {x:AV} {vs:List V} (h:ZAg P a x=Xa vs):vs.length=a.n∧((∃ g ds,a = .clo g ds∧x = .clo g ds)∨∀ c b:List V,Vw P x (Zpe a (c++vs++b) c.length)):=by
 unfold ZAg at h;split at h
 ·cases hd:Zwd P _ x with
  | none => rw [hd] at h; cases h
  | some v =>
   rw [hd] at h;simp only [XC,Xg] at h;subst h;refine ⟨rfl,.inr fun c b=>?_⟩;simp only [Zpe,Xl,XV,XM,W6];exact .comp (.cell (ZpW hd))
 ·rename_i l cs;split at h
  ·rename_i i;obtain ⟨d,e,f⟩:=Zc7 (P:=P) _ _ _ h;exact ⟨d,.inr fun c b=>.comp (.agg (by rw [e,Ys]) (Wb _ _ _ i) (f c b))⟩
  ·cases h
 ·obtain ⟨d,e,f⟩:=Zc7 (P:=P) _ _ _ h;exact ⟨d,.inr fun c b=>.box (by rw [e,Ys]) (f c b)⟩
 ·obtain ⟨d,e,f⟩:=Zc7 (P:=P) _ _ _ h;exact ⟨d,.inr fun c b=>.gbox (by rw [e,Ys]) (f c b)⟩
 ·split at h
  ·rename_i j;simp only [Xg] at h;subst h;obtain ⟨rfl,rfl⟩:=j;exact ⟨rfl,.inl ⟨_,_,rfl,rfl⟩⟩
  ·cases h
 ·simp only [Xg] at h;subst h;exact ⟨rfl,.inr fun _ _=>.dead⟩
 ·cases h
def Zfj:∀ (l:List AP) (us:List V) (j:Nat),(VV l us j).length=l.length
 | [], _, _ => rfl
 | _ :: ss, us, j => by simp [VV, Zfj ss us]
def ZlU {P:Program} : ∀ (j:List AP) (xs:List AV) (vs:List V),Zez P j xs=Xa vs→xs.length=j.length∧∀ d b:List V,
  ∀ (i:Nat) (c c':AV),xs[i]? = Xa c→(VV j (d++vs++b) d.length)[i]? = Xa c'→(∃ g ds,j[i]? = Xa (.clo g ds)∧c = .clo g ds∧c' = .clo g ds)∨Vw P c c'
 | [], [], _, _ => ⟨rfl, fun _ _ i c c' h => by simp at h⟩
 | [], _ :: _, _, h => by simp [Zez] at h
 | _ :: _, [], _, h => by simp [Zez] at h
 | a :: j, x :: xs, ws, h => by
  simp only [Zez] at h;split at h
  ·rename_i vs us m k;simp only [Xg] at h;subst h;obtain ⟨o,l⟩:=ZxS (P:=P) m;obtain ⟨p,q⟩:=ZlU (P:=P) j xs us k;refine ⟨by simp [p],fun d b i r s f e=>?_⟩
   cases i with
   | zero =>
    simp only [VV,XQ,Xg] at f e;subst f;subst e;rcases l with ⟨g,ds,rfl,rfl⟩ | l
    ·exact .inl ⟨g,ds,rfl,rfl,rfl⟩
    ·have:=l d (us++b);exact .inr (by simpa [Xl] using this)
   | succ i =>
    have:=q (d++vs) b i r s (by simpa using f);rw [Xf,o] at this;simp only [VV,Uz] at e;refine this ?_;simpa [Xl] using e
  ·cases h
def Zef (b:List AP):Bool:=b.all fun a=>match a with | .clo _ ds=>ds.all (fun d=>match b[d]? with | some (.gbox _)=>Xb | _=>Xc) | _=>Xb
def Zi0:∀ (c:List AP) (us:List V) (j i:Nat) (a:AP),c[i]? = Xa a→∃ k,(VV c us j)[i]? = Xa (Zpe a us k)
 | [], _, _, _, _, h => by simp at h
 | b :: c, us, j, 0, a, h => by
  simp only [XQ,Xg] at h;subst h;exact ⟨j,rfl⟩
 | b :: c, us, j, i + 1, a, h => by
  obtain ⟨k,d⟩:=Zi0 c us (j+b.n) i a (by simpa using h);exact ⟨k,by simpa [VV] using d⟩
def Zka {P:Program} {a:List AP} {xs:List AV} {vs:List V} (b:Zef a=Xb) (h:Zez P a xs=Xa vs):Zax P xs (VV a vs 0):=by
 obtain ⟨m,o⟩:=ZlU (P:=P) a xs vs h;refine ⟨by rw [m,Zfj],fun i c c' p e=>?_⟩;rcases o [] [] i c c' p (by simpa using e) with ⟨g,ds,k1,rfl,rfl⟩ | hw
 ·refine .inr ⟨g,ds,rfl,rfl,fun d q=>?_⟩;unfold Zef at b;rw [Xo] at b;have f:=b _ (Xt k1);simp only at f;rw [Xo] at f;have j:=f d q;split at j
  ·rename_i l r;obtain ⟨k,s⟩:=Zi0 a vs 0 d _ r;simp only [JG,s];rfl
  ·cases j
 ·exact .inl hw
def ZnH (a:AP) (x:AV):AV:=
 match a,x with
 | .c (.slice _), .own Xb e xs => .own Xc e xs
 | .c (.own Xc _), .own Xb e xs => .own Xc e xs
 | _, x => x
def Zjj:List AP→List AV→List AV
 | a :: aZ, x :: xs => ZnH a x :: Zjj aZ xs
 | _, xs => xs
def Zec (a:AP) (x:AV):ZnH a x=x∨∃ e xs,x = .own Xb e xs∧ZnH a x = .own Xc e xs:=by
 unfold ZnH;split
 ·exact .inr ⟨_,_,rfl,rfl⟩
 ·exact .inr ⟨_,_,rfl,rfl⟩
 ·exact .inl rfl
def ZlB (a b:List AV) (x:AV) (i:Nat):JG (a++x::b) i=if i=a.length then x else JG (a++.dead::b) i:=by
 unfold JG;by_cases hi:i=a.length
 ·subst hi;rw [P4 rfl,XH (Xr _),Nat.sub_self];rfl
 ·rw [P3 hi];by_cases hlt:i < a.length
  ·rw [XL hlt,XL hlt]
  ·rw [XH (by omega),XH (by omega)];obtain ⟨j,c⟩:∃ j,i-a.length=j+1:=⟨i-a.length-1,by omega⟩;rw [c,Uz,Uz]
def Zrd {P:Program} {w:World} {lim:Nat→Nat} {e:TypeId} {xs:List (List AV)} {v:Value} (h:YF P w lim Xb e xs v Xe):YF P w lim Xc e xs v Xe:=by
 rcases h with ⟨us,h1,h2,h3,h4,h5,h6⟩ | h
 ·exact .inl ⟨us,h1,h2,fun b a=>(by cases a),h4,h5,h6⟩
 ·exact .inr h
def Kg.freeze1 {P:Program} {f:FuncId} {a c:List AV} {e:TypeId} {xs:List (List AV)} {res:AV} {outs:List AV} (h:Kg P f (a++.own Xc e xs::c) res outs)
  (hn:∀ x∈a++c,∀ d k,¬ Yr x d k):Kg P f (a++.own Xb e xs::c) res outs:=by
 refine ⟨h.1,fun w lim X j W t q z=>?_⟩;have l:∀ (b:Bool) (i:Nat),JG (a++.own b e xs::c) i=if i=a.length then .own b e xs else JG (a++.dead::c) i:=fun b i=>ZlB a c _ i
 have M:∀ i d k,i≠a.length→¬ Yr (JG (a++.dead::c) i) d k:=by
  intro i d k r p
  have A:JG (a++.dead::c) i = .dead∨JG (a++.dead::c) i∈a++c:=by
   unfold JG
   cases A:(a++AV.dead::c)[i]? with
   | none => exact .inl rfl
   | some x =>
    have H:=Xt A;rw [Xz,Xs] at H;rcases H with H | rfl | H
    ·exact .inr (TA _ H)
    ·exact .inl rfl
    ·exact .inr (TU _ H)
  rcases A with A | A
  ·rw [A] at p;rcases p with p | ⟨_,p⟩ <;> cases p
  ·exact hn _ A d k p
 have h0:=t a.length;rw [l,P4 rfl] at h0;have s:YF P w lim Xb e xs (j.getD a.length undef) (X a.length 0):=h0
 obtain ⟨g,he,hk,N⟩:∃ g,Ext w lim w g∧(∀ b,X a.length 0≠Xa b→g b=lim b)∧YF P w g Xc e xs (j.getD a.length undef) (X a.length 0):=by
  cases J:X a.length 0 with
  | none => rw [J] at s; exact ⟨lim, Ext.refl _ _, fun _ _ => rfl, Zrd s⟩
  | some b0 =>
   rw [J] at s
   have Y:lim b0=0:=by
    rcases s with ⟨us,_,_,h3,_⟩ | ⟨_,h,_⟩
    ·rw [h3 b0 rfl];rfl
    ·cases h
   have y:Ext w lim w (Zb9 lim b0 (xs.length*P.cellsOf e)):=fun b _=>by
    refine ⟨?_,fun o u _ hu=>hu⟩;unfold Zb9;split
    ·rename_i h;rw [h,Y];exact Nat.zero_le _
    ·exact Xr _
   exact ⟨_,y,fun b C=>P3 fun e=>C (by rw [e]),Zh7 s y⟩
 have D:∀ i,Jx P w g X (JG (a++.own Xc e xs::c)) i (JG (a++.own Xc e xs::c) i) (j.getD i undef):=by
  intro i;by_cases r:i=a.length
  ·subst r;rw [l,P4 rfl];exact N
  ·have h1:=t i;have C:JG (a++.own Xc e xs::c) i=JG (a++.own Xb e xs::c) i:=by rw [l,l,P3 r,P3 r]
   rw [C];refine Jx.chg (h1.mono he (fun k b J=>⟨rfl,hk b fun e=>r (q i k a.length 0 b J e).1⟩) fun O k b p _=>?_) rfl (fun O cs L=>⟨⟨cs,?_⟩,rfl⟩) (fun O T=>⟨?_,rfl⟩) fun O k p=>?_
   ·rw [l,P3 r] at p;exact (M i O k r (.inl p)).elim
   ·rw [l] at L ⊢;split at L
    ·cases L
    ·rename_i E;rw [P3 E];exact L
   ·rw [l] at T ⊢;split at T
    ·cases T
    ·rename_i E;rw [P3 E];exact T
   ·rw [l,P3 r] at p;exact (M i O k r p).elim
 have Q:(a++AV.own Xb e xs::c).countP AV.isG=(a++AV.own Xc e xs::c).countP AV.isG:=by
  simp [List.countP_append,List.countP_cons,AV.isG]
 have G:(a++AV.own Xb e xs::c).length=(a++AV.own Xc e xs::c).length:=by simp
 refine (h.2 w g X j (by rw [← Q,← G];exact W) D q z).mono ?_;rintro e' w' ⟨v,R,X',Z,m,aa,p,L,ab,ac⟩;refine ⟨v,R,X',Z,⟨m.os,m.tape,m.output,m.size,m.frz,fun b J S=>?_,he.trans m.ext (Xr _)⟩,by rw [aa,G],fun i=>by rw [G];exact p i,L,ab,fun i r=>?_⟩
 ·obtain ⟨k1,k2⟩:=m.blk b J S;exact ⟨k1,k2.trans (hk b fun e=>S ⟨_,_,e⟩)⟩
 ·obtain ⟨U,m2⟩:=ac i r;refine ⟨?_,m2⟩;rw [l] at U ⊢;split at U
  ·cases U
  ·rename_i ad;rw [P3 ad];exact U
def Zfm {d k:Nat} : ∀ (c:List AP) (xs:List AV),(∀ x∈Zjj c xs,¬ Yr x d k)→∀ x∈xs,¬ Yr x d k
 | [], xs, h => fun x b => h x (by cases xs <;> exact b)
 | _ :: _, [], _ => fun _ b => by cases b
 | a :: c, y :: ys, h => fun x b => by
  rcases Xs.1 b with rfl | b
  ·rcases Zec a x with e | ⟨_,_,rfl,_⟩
   ·have:=h (ZnH a x) (List.mem_cons_self ..)
    rwa [e] at this
   ·rintro (h | ⟨_,h⟩)<;>cases h
  ·exact Zfm c ys (fun z f=>h z (TQ _ f)) x b
def Kg.freeze {P:Program} {f:FuncId} {res:AV} {outs:List AV} : ∀ (c:List AP) (xs b:List AV),Kg P f (b++Zjj c xs) res outs→(∀ x∈b++Zjj c xs,∀ d k,¬ Yr x d k)→Kg P f (b++xs) res outs
 | [], xs, b, h, _ => by cases xs <;> exact h
 | _ :: _, [], b, h, _ => h
 | a :: c, x :: xs, b, h, hn => by
  have i:=Kg.freeze c xs (b++[ZnH a x]) (by simpa [Zjj] using h) (by simpa [Zjj] using hn);rw [Xl,List.singleton_append] at i;rcases Zec a x with e | ⟨e,ys,rfl,e'⟩
  ·rwa [e] at i
  ·rw [e'] at i;refine i.freeze1 fun y g d k=>?_;rcases Xz.1 g with g | g
   ·exact hn y (TA _ g) d k
   ·exact Zfm c xs (fun z j=>hn z (TU _ (TQ _ j)) d k) y g
def ZqK {P:Program} {a:AP} {x:AV} {vs:List V} (h:ZAg P a x=Xa vs) (d k:Nat):¬ Yr x d k:=by
 rintro (rfl | ⟨_,rfl⟩)<;>cases a<;>simp [ZAg,Zwd] at h
 all_goals (rename_i s;cases s<;>simp [Zwd] at h)
def Zf9 {P:Program} : ∀ (b:List AP) (xs:List AV) (vs:List V),Zez P b xs=Xa vs→∀ x∈xs,∀ d k,¬ Yr x d k
 | _, [], _, _ => fun _ f => by cases f
 | [], _ :: _, _, h => by simp [Zez] at h
 | a :: b, x :: xs, ws, h => by
  simp only [Zez] at h;split at h
  ·rename_i vs us g c;intro y e d k;rcases Xs.1 e with rfl | e
   ·exact ZqK g d k
   ·exact Zf9 b xs us c y e d k
  ·cases h
def Zv6 {γ:Type} (P:Program) (S:Fun) (a:List AV) (k:List V→Option γ):Option γ:=
 match Zez P S.args (Zjj S.args a) with
 | some vs => (S.g vs).bind fun r => k (ZeQ _ r)
 | none => Xe
def Zoh {γ:Type} {S:Fun} {b:List AV} {k:List V→Option γ} {x:γ} {P:Program} (h:Zv6 P S b k=Xa x):∃ vs r,Zez P S.args (Zjj S.args b)=Xa vs∧S.g vs=Xa r∧k (ZeQ _ r)=Xa x:=by
 unfold Zv6 at h;split at h
 ·rename_i vs a;rw [Option.bind_eq_some_iff] at h;obtain ⟨r,c,d⟩:=h;exact ⟨vs,r,a,c,d⟩
 ·cases h
def ZAN (s:Sh) (x:SC) (m:Nat):Bool:=
 match s,x with
 | .int k, .int k' (.var a) => decide (k' = k) && decide (a = m)
 | .bool, .bool (.var a) => decide (a = m)
 | .str, .str (.var a) => decide (a = m)
 | .slice s, .slice Xc s' (.var a) => decide (s' = s) && decide (a = m)
 | _, _ => Xc
def ZnV:List Sh→List SC→Nat→Bool
 | [], [], _ => Xb
 | s :: ss, c :: cs, m => ZAN s c m && ZnV ss cs (m + 1)
 | _, _, _ => Xc
def ZEa (r:RSh) (x:TC) (m:Nat):Bool:=
 match r,x with
 | .c s, .c x => ZAN s x m
 | .c (.own x e), .own x' e' (.var a) => (decide (e' = e) && decide (a = m)) && (x' == x)
 | .agg l, .agg cs => ZnV l cs m
 | _, _ => Xc
def Zon:List RSh→List TC→Nat→Bool
 | [], [], _ => Xb
 | r :: rs, x :: xs, m => ZEa r x m && Zon rs xs (m + r.sh.length)
 | _, _, _ => Xc
def ZD3:SV→Option TC
 | .c x => Xa (.c x)
 | .agg cs => Xa (.agg cs)
 | .own x e l => Xa (.own x e l)
 | _ => Xe
def ZGI (rs:List RSh) (x:SV) (m:Nat):Bool:=
 match rs with
 | [r] => match ZD3 x with | some y => ZEa r y m | none => Xc
 | rs => match x with | .tuple vs => Zon rs vs m | _ => Xc
def ZEQ (s:Sh) (x:BC) (m:Nat):Bool:=
 match s,x with
 | s, .c x => ZAN s x m
 | .own x e, .own x' e' (.var a) => (decide (e' = e) && decide (a = m)) && (x' == x)
 | _, _ => Xc
def Zk0:List Sh→List BC→Nat→Bool
 | [], [], _ => Xb
 | s :: ss, c :: cs, m => ZEQ s c m && Zk0 ss cs (m + 1)
 | _, _, _ => Xc
def Zao:List AP→List SV→Nat→Bool
 | [], [], _ => Xb
 | .box l :: r, .box cs :: xs, m => Zk0 l cs m && Zao r xs (m + l.length)
 | .gbox l :: r, .gbox cs :: xs, m => Zk0 l cs m && Zao r xs (m + l.length)
 | .c _ :: r, .dead :: xs, m => Zao r xs m
 | .agg _ :: r, .dead :: xs, m => Zao r xs m
 | .clo _ _ :: r, .dead :: xs, m => Zao r xs m
 | .dead :: r, .dead :: xs, m => Zao r xs m
 | _, _, _ => Xc
section
variable {ρ:Nat→V} {n:Nat} {us:List V}
def Zcu (j:Nat) (h:j < us.length):bind ρ n us (n+j)=vAt us j:=by
 unfold bind vAt;rw [P3 (by omega),show n+j-n=j by omega,Xp h];rfl
def Zhk {s:Sh} {x:SC} {j:Nat} (h:ZAN s x (n+j)=Xb) (a:j < us.length):x.den (bind ρ n us)=Vy s (vAt us j):=by
 unfold ZAN at h;split at h
 ·simp only [Xj,P5] at h;obtain ⟨rfl,rfl⟩:=h;simp only [SC.den,IE.den,Zcu j a,Vy]
 ·simp only [P5] at h;subst h;simp only [SC.den,BE.den,Zcu j a,Vy]
 ·simp only [P5] at h;subst h;simp only [SC.den,SE.den,Zcu j a,Vy]
 ·simp only [Xj,P5] at h;obtain ⟨rfl,rfl⟩:=h;simp only [SC.den,LE.den,Zcu j a,Vy]
 ·cases h
def Zic:∀ (l:List Sh) (cs:List SC) (j:Nat),ZnV l cs (n+j)=Xb→j+l.length≤us.length→cs.map (SC.den (bind ρ n us))=JM l us j
 | [], [], _, _, _ => rfl
 | [], _ :: _, _, h, _ => by simp [ZnV] at h
 | _ :: _, [], _, h, _ => by simp [ZnV] at h
 | s :: ss, c :: cs, j, h, hl => by
  simp only [ZnV,Xj] at h;simp only [Xv] at hl;rw [Xn,JM,Zhk h.1 (by omega),Zic ss cs (j+1) (by rw [← Ui];exact h.2) (by omega)]
def Zl4 {r:RSh} {x:TC} {j:Nat} (h:ZEa r x (n+j)=Xb) (a:j+r.sh.length≤us.length):x.den (bind ρ n us)=WG r us j:=by
 unfold ZEa at h;split at h
 ·exact Zhk h (by simp [RSh.sh] at a;omega)
 ·simp only [Xj,P5,beq_iff_eq] at h;obtain ⟨⟨rfl,rfl⟩,rfl⟩:=h;have b:j < us.length:=by simp [RSh.sh] at a;omega
  simp only [TC.den,LE.den,Zcu j b,WG,Vy]
 ·simp only [TC.den,WG,Zic _ _ j h a]
 ·cases h
def ZjC:∀ (rs:List RSh) (xs:List TC) (j:Nat),Zon rs xs (n+j)=Xb→j+(rs.flatMap RSh.sh).length≤us.length→xs.map (TC.den (bind ρ n us))=Kh rs us j
 | [], [], _, _, _ => rfl
 | [], _ :: _, _, h, _ => by simp [Zon] at h
 | _ :: _, [], _, h, _ => by simp [Zon] at h
 | r :: rs, x :: xs, j, h, hl => by
  simp only [Zon,Xj] at h;simp only [List.flatMap_cons,Xf] at hl;rw [Xn,Kh,Zl4 h.1 (by omega),ZjC rs xs (j+r.sh.length) (by rw [← Ui];exact h.2) (by omega)]
def Znu {x:SV} {y:TC} (h:ZD3 x=Xa y) (ρ:Nat→V):x.den ρ=y.den ρ:=by
 unfold ZD3 at h;split at h<;>simp at h<;>subst h<;>rfl
def Zss {rs:List RSh} {x:SV} (h:ZGI rs x n=Xb) (b:ZmA rs≤us.length):x.den (bind ρ n us)=Wy rs us 0:=by
 unfold ZGI at h;split at h
 ·split at h
  ·rename_i r y c;rw [Znu c];exact Zl4 (j:=0) h (by simpa [ZmA] using b)
  ·cases h
 ·rename_i a;split at h
  ·rename_i vs
   have:Wy rs us 0 = .tuple (Kh rs us 0):=by
    unfold Wy;split
    ·exact (a _ rfl).elim
    ·rfl
   rw [this];simp only [SV.den,ZjC rs vs 0 h (by simpa [ZmA] using b)]
  ·cases h
def Zty {s:Sh} {x:BC} {j:Nat} (h:ZEQ s x (n+j)=Xb) (a:j < us.length):x.den (bind ρ n us)=Vy s (vAt us j):=by
 unfold ZEQ at h;split at h
 ·exact Zhk h a
 ·simp only [Xj,P5,beq_iff_eq] at h;obtain ⟨⟨rfl,rfl⟩,rfl⟩:=h;simp only [BC.den,LE.den,Zcu j a,Vy]
 ·cases h
def Zd0:∀ (l:List Sh) (cs:List BC) (j:Nat),Zk0 l cs (n+j)=Xb→j+l.length≤us.length→cs.map (BC.den (bind ρ n us))=JM l us j
 | [], [], _, _, _ => rfl
 | [], _ :: _, _, h, _ => by simp [Zk0] at h
 | _ :: _, [], _, h, _ => by simp [Zk0] at h
 | s :: ss, c :: cs, j, h, hl => by
  simp only [Zk0,Xj] at h;simp only [Xv] at hl;rw [Xn,JM,Zty h.1 (by omega),Zd0 ss cs (j+1) (by rw [← Ui];exact h.2) (by omega)]
def Vv:∀ (aps:List AP) (xs:List SV) (j:Nat),Zao aps xs (n+j)=Xb→j+(Kj aps).length≤us.length→xs.map (SV.den (bind ρ n us))=JK aps us j
 | [], [], _, _, _ => rfl
 | [], _ :: _, _, h, _ => by simp [Zao] at h
 | .box l :: r, x :: xs, j, h, hl => by
  cases x<;>simp [Zao] at h
  rename_i cs;simp only [Kj,Xf] at hl;have b:cs.map (BC.den (bind ρ n us))=JM l us j:=Zd0 l cs j h.1 (by omega);simp only [Xn,JK,SV.den,b,Vv r xs (j+l.length) (by rw [← Ui];exact h.2) (by omega)]
 | .gbox l :: r, x :: xs, j, h, hl => by
  cases x<;>simp [Zao] at h
  rename_i cs;simp only [Kj,Xf] at hl;have b:cs.map (BC.den (bind ρ n us))=JM l us j:=Zd0 l cs j h.1 (by omega);simp only [Xn,JK,SV.den,b,Vv r xs (j+l.length) (by rw [← Ui];exact h.2) (by omega)]
 | .c _ :: r, x :: xs, j, h, hl => by
  cases x<;>simp [Zao] at h
  simp only [Kj] at hl;simp only [Xn,JK,SV.den,Vv r xs j h hl]
 | .agg _ :: r, x :: xs, j, h, hl => by
  cases x<;>simp [Zao] at h
  simp only [Kj] at hl;simp only [Xn,JK,SV.den,Vv r xs j h hl]
 | .clo _ _ :: r, x :: xs, j, h, hl => by
  cases x<;>simp [Zao] at h
  simp only [Kj] at hl;simp only [Xn,JK,SV.den,Vv r xs j h hl]
 | .dead :: r, x :: xs, j, h, hl => by
  cases x<;>simp [Zao] at h
  simp only [Kj] at hl;simp only [Xn,JK,SV.den,Vv r xs j h hl]
 | a :: _, [], _, h, _ => by cases a <;> simp [Zao] at h
end
def ZmV:∀ (l:List Sh) (x:ShsT l),(ZeQ l x).length=l.length
 | [], _ => rfl
 | [_], _ => rfl
 | _ :: t :: r, x => by simp [ZeQ, ZmV (t :: r) x.2]
def ZEc (P:Program) (r:RSh) (x:TC):Option (List VE):=
 match r,x with
 | .c s, .c x => (ZtI s x).map fun v => [v]
 | .c s, .own x e l => (ZeO P s x e l).map fun v => [v]
 | .agg l, .agg cs => if l.all Sh.imm = Xb then ZhR l cs else Xe
 | _, _ => Xe
def Zla (P:Program):List RSh→List TC→Option (List VE)
 | [], [] => Xa []
 | r :: rs, x :: xs => match ZEc P r x, Zla P rs xs with | some v, Xa vs => Xa (v ++ vs) | _, _ => Xe
 | _, _ => Xe
def ZFD (P:Program) (rs:List RSh) (x:SV):Option (List VE):=
 match rs with
 | [r] => match ZD3 x with | some y => ZEc P r y | none => Xe
 | rs => match x with | .tuple vs => Zla P rs vs | _ => Xe
def WZ (P:Program):List AP→List SV→Option (List VE)
 | [], [] => Xa []
 | .box l :: r, .box cs :: xs => match Ze3 P l cs, WZ P r xs with | some v, Xa vs => Xa (v ++ vs) | _, _ => Xe
 | .gbox l :: r, .gbox cs :: xs => match Ze3 P l cs, WZ P r xs with | some v, Xa vs => Xa (v ++ vs) | _, _ => Xe
 | .c _ :: r, .dead :: xs => WZ P r xs
 | .agg _ :: r, .dead :: xs => WZ P r xs
 | .clo _ _ :: r, .dead :: xs => WZ P r xs
 | .dead :: r, .dead :: xs => WZ P r xs
 | _, _ => Xe
def ZkR (P:Program) (aps:List AP) (rs:List RSh) (x:SV) (a:List SV):Option (List VE):=
 match ZFD P rs x,WZ P aps a with
 | some vs, Xa us => Xa (vs ++ us)
 | _, _ => Xe
section
variable {P:Program} {ρ:Nat→V}
def Zql {r:RSh} {x:TC} {vs:List VE} (h:ZEc P r x=Xa vs):vs.length=r.sh.length∧∀ b a:List V,Ze9 P (x.den ρ) (WG r (b++vs.map (VE.den ρ)++a) b.length):=by
 unfold ZEc at h;split at h
 ·cases hd:ZtI _ _ with
  | none => rw [hd] at h; cases h
  | some v =>
   rw [hd] at h;simp only [XC,Xg] at h;subst h;refine ⟨rfl,fun b a=>?_⟩;simp only [WG,Xn,XI,Xl,XV,XM,W6];exact .cell (Zhc hd)
 ·cases hd:ZeO P _ _ _ _ with
  | none => rw [hd] at h; cases h
  | some v =>
   rw [hd] at h;simp only [XC,Xg] at h;subst h;refine ⟨rfl,fun b a=>?_⟩;simp only [WG,Xn,XI,Xl,XV,XM,W6];exact .cell (ZdZ hd)
 ·split at h
  ·rename_i c;obtain ⟨d,e,f⟩:=ZgB (P:=P) (ρ:=ρ) _ _ _ h;exact ⟨d,fun b a=>.agg (by rw [Xk,e,Ys]) (Wb _ _ _ c) (f b a)⟩
  ·cases h
 ·cases h
def ZcI:∀ (rs:List RSh) (us:List V) (j:Nat),(Kh rs us j).length=rs.length
 | [], _, _ => rfl
 | _ :: ss, us, j => by simp [Kh, ZcI ss us]
def ZlL:∀ (rs:List RSh) (xs:List TC) (vs:List VE),Zla P rs xs=Xa vs→vs.length=(rs.flatMap RSh.sh).length∧xs.length=rs.length∧∀ b a:List V,
  ∀ (i:Nat) (c c':AV),(xs.map (TC.den ρ))[i]? = Xa c→(Kh rs (b++vs.map (VE.den ρ)++a) b.length)[i]? = Xa c'→Ze9 P c c'
 | [], [], vs, h => by
  simp only [Zla,Xg] at h;subst h;exact ⟨rfl,rfl,fun _ _ i c c' h=>by simp at h⟩
 | [], _ :: _, _, h => by simp [Zla] at h
 | _ :: _, [], _, h => by simp [Zla] at h
 | r :: rs, x :: xs, us, h => by
  simp only [Zla] at h;split at h
  ·rename_i v vs j f;simp only [Xg] at h;subst h;obtain ⟨g,k⟩:=Zql (P:=P) (ρ:=ρ) j;obtain ⟨l,m,o⟩:=ZlL rs xs vs f;refine ⟨by simp [g,l],by simp [m],fun b a i p q e d=>?_⟩
   cases i with
   | zero =>
    simp only [Kh,Xn,XQ,Xg] at e d;subst e;subst d;have:=k b (vs.map (VE.den ρ)++a);simpa [Xl] using this
   | succ i =>
    have:=o (b++v.map (VE.den ρ)) a i p q (by simpa using e);rw [Xf,Xk,g] at this;simp only [Kh,Uz] at d;refine this ?_;simpa [Xl] using d
  ·cases h
def Zwy {rs:List RSh} {x:SV} {vs:List VE} (h:ZFD P rs x=Xa vs):vs.length=ZmA rs∧∀ a:List V,Vw P (x.den ρ) (Wy rs (vs.map (VE.den ρ)++a) 0):=by
 unfold ZFD at h;split at h
 ·split at h
  ·rename_i r y g;obtain ⟨b,d⟩:=Zql (P:=P) (ρ:=ρ) h;refine ⟨by simpa [ZmA] using b,fun a=>?_⟩;rw [Znu g];have:=d [] a;exact .comp (by simpa [Wy] using this)
  ·cases h
 ·rename_i e;split at h
  ·rename_i l;obtain ⟨b,d,j⟩:=ZlL (P:=P) (ρ:=ρ) _ _ _ h;refine ⟨b,fun a=>?_⟩
   have:∀ us,Wy rs us 0 = .tuple (Kh rs us 0):=by
    intro us;unfold Wy;split
    ·exact (e _ rfl).elim
    ·rfl
   rw [this];refine .tuple (by rw [Xk,d,ZcI]) fun i c c' k f=>j [] a i c c' k ?_;simpa using f
  ·cases h
def ZdQ:∀ (aps:List AP) (us:List V) (j:Nat),(JK aps us j).length=aps.length
 | [], _, _ => rfl
 | a :: r, us, j => by cases a <;> simp [JK, ZdQ r us]
def Wv:∀ (aps:List AP) (xs:List SV) (vs:List VE),WZ P aps xs=Xa vs→vs.length=(Kj aps).length∧xs.length=aps.length∧∀ d b:List V,
  ∀ (i:Nat) (c c':AV),(xs.map (SV.den ρ))[i]? = Xa c→(JK aps (d++vs.map (VE.den ρ)++b) d.length)[i]? = Xa c'→Vw P c c'
 | [], [], vs, h => by
  simp only [WZ,Xg] at h;subst h;exact ⟨rfl,rfl,fun _ _ i c c' h=>by simp at h⟩
 | [], _ :: _, _, h => by simp [WZ] at h
 | a :: _, [], _, h => by cases a <;> simp [WZ] at h
 | .box l :: r, x :: xs, us, h => by
  cases x<;>simp only [WZ,reduceCtorEq] at h
  split at h
  ·rename_i cs v vs w k;simp only [Xg] at h;subst h;obtain ⟨m,y,z⟩:=ZbI (P:=P) (ρ:=ρ) _ _ _ w;obtain ⟨o,p,q⟩:=Wv r xs vs k;refine ⟨by simp [m,o,Kj],by simp [p],fun d b i t u f e=>?_⟩
   cases i with
   | zero =>
    simp only [JK,Xn,XQ,Xg,SV.den] at f e;subst f;subst e;have:=z d (vs.map (VE.den ρ)++b);exact .box (by rw [Xk,y,Ys]) (by simpa [Xl] using this)
   | succ i =>
    have:=q (d++v.map (VE.den ρ)) b i t u (by simpa using f);rw [Xf,Xk,m] at this;simp only [JK,Uz] at e;refine this ?_;simpa [Xl] using e
  ·cases h
 | .gbox l :: r, x :: xs, us, h => by
  cases x<;>simp only [WZ,reduceCtorEq] at h
  split at h
  ·rename_i cs v vs w k;simp only [Xg] at h;subst h;obtain ⟨m,y,z⟩:=ZbI (P:=P) (ρ:=ρ) _ _ _ w;obtain ⟨o,p,q⟩:=Wv r xs vs k;refine ⟨by simp [m,o,Kj],by simp [p],fun d b i t u f e=>?_⟩
   cases i with
   | zero =>
    simp only [JK,Xn,XQ,Xg,SV.den] at f e;subst f;subst e;have:=z d (vs.map (VE.den ρ)++b);exact .gbox (by rw [Xk,y,Ys]) (by simpa [Xl] using this)
   | succ i =>
    have:=q (d++v.map (VE.den ρ)) b i t u (by simpa using f);rw [Xf,Xk,m] at this;simp only [JK,Uz] at e;refine this ?_;simpa [Xl] using e
  ·cases h
 | .c s :: r, x :: xs, us, h => by
  cases x<;>simp only [WZ,reduceCtorEq] at h
  exact retOs_dead (a:=.c s) r xs us (Wv r xs us h) (fun _ _=>rfl) rfl
 | .agg l :: r, x :: xs, us, h => by
  cases x<;>simp only [WZ,reduceCtorEq] at h
  exact retOs_dead (a:=.agg l) r xs us (Wv r xs us h) (fun _ _=>rfl) rfl
 | .clo g ds :: r, x :: xs, us, h => by
  cases x<;>simp only [WZ,reduceCtorEq] at h
  exact retOs_dead (a:=.clo g ds) r xs us (Wv r xs us h) (fun _ _=>rfl) rfl
 | .dead :: r, x :: xs, us, h => by
  cases x<;>simp only [WZ,reduceCtorEq] at h
  exact retOs_dead (a:=.dead) r xs us (Wv r xs us h) (fun _ _=>rfl) rfl
where
 retOs_dead {a:AP} (r:List AP) (xs:List SV) (us:List VE) (h:us.length=(Kj r).length∧xs.length=r.length∧∀ d b:List V,
   ∀ (i:Nat) (c c':AV),(xs.map (SV.den ρ))[i]? = Xa c→(JK r (d++us.map (VE.den ρ)++b) d.length)[i]? = Xa c'→Vw P c c')
   (A:∀ vs j,JK (a::r) vs j = .dead::JK r vs j) (C:Kj (a::r)=Kj r):us.length=(Kj (a::r)).length∧(SV.dead::xs).length=(a::r).length∧∀ d b:List V,
   ∀ (i:Nat) (c c':AV),((SV.dead::xs).map (SV.den ρ))[i]? = Xa c→(JK (a::r) (d++us.map (VE.den ρ)++b) d.length)[i]? = Xa c'→Vw P c c':=by
  obtain ⟨o,p,q⟩:=h;refine ⟨by rw [C];exact o,by simp [p],fun d b i t u f e=>?_⟩;rw [A] at e
  cases i with
  | zero =>
   simp only [Xn,XQ,Xg] at f e;subst e;exact .dead
  | succ i => exact q d b i t u (by simpa using f) (by simpa using e)
def Zn9 {aps:List AP} {rs:List RSh} {x:SV} {g:List SV} {vs:List VE} (h:ZkR P aps rs x g=Xa vs) :
  Zax P (g.map (SV.den ρ)++[x.den ρ]) (JK aps (vs.map (VE.den ρ)) (ZmA rs)++[Wy rs (vs.map (VE.den ρ)) 0]):=by
 unfold ZkR at h;split at h
 ·rename_i a b j k;simp only [Xg] at h;subst h;obtain ⟨l,m⟩:=Zwy (ρ:=ρ) j;obtain ⟨r,o,p⟩:=Wv (P:=P) (ρ:=ρ) _ _ _ k;have e:(g.map (SV.den ρ)).length=(JK aps ((a++b).map (VE.den ρ)) (ZmA rs)).length:=by rw [Xk,o,ZdQ]
  refine ⟨by simp only [Xf,e,Xv,Xm],fun i c c' f d=>?_⟩;by_cases hi:i < (g.map (SV.den ρ)).length
  ·rw [XL hi] at f;rw [XL (by rw [← e];exact hi)] at d;have:=p (a.map (VE.den ρ)) [] i c c' f;rw [Xk,l] at this;exact .inl (this (by simpa using d))
  ·rw [XH (by omega)] at f;rw [XH (by rw [← e];omega),← e] at d
   have q:i-(g.map (SV.den ρ)).length=0:=by
    have:=(XA.1 f).1;simp only [Xv,Xm] at this;omega
   rw [q] at f d;simp only [XQ,Xg] at f d;subst f;subst d;rw [List.map_append];exact .inl (m _)
 ·cases h
end
def Zx7 {γ:Type} (A:Nat→List V→Option γ) (n:Nat) (B:List V→Option γ):Nat→List V→Option γ:=fun i vs=>if i=n then B vs else A i vs
def STree.run (P:Program) (Φ:List (FuncId×Fun)) (aps:List AP) (rs:List RSh):STree→(Nat→List V→Option (ShsT (Zcj rs aps)))→(Nat→V)→Option (ShsT (Zcj rs aps))
 | .stuck _, _, _ => Xe
 | .branch b t e, A, ρ => if b.den ρ = Xb then t.run P Φ aps rs A ρ else e.run P Φ aps rs A ρ
 | .req p t, A, ρ => @Zy _ (p.den ρ) (p.decDen ρ) (t.run P Φ aps rs A ρ)
 | .elem l i sh n t, A, ρ => Zj (l.den ρ) (i.den ρ) sh fun r => t.run P Φ aps rs A (bind ρ n (ZeQ sh r))
 | .nilq l n t, A, ρ => @ZDb _ (decS _) (l.den ρ) fun b => t.run P Φ aps rs A (bind ρ n [.b b])
 | .call f args res outs n _ t, A, ρ =>
  match ZpP Φ f (args.filterMap SV.sig) with
  | some S => if ZGI S.res res n = Xb ∧ Zao S.args outs (n + ZmA S.res) = Xb ∧ Zef S.args = Xb then Zv6 P S (args.map (SV.den ρ)) fun us => t.run P Φ aps rs A (bind ρ n us) else Xe
  | none => Xe
 | .loop lv init n t, A, ρ => Ze5 (fun a vs => t.run P Φ aps rs (Zx7 A lv a) (bind Zj2 n vs)) Zr (init.map (VE.den ρ))
 | .again lv vals, A, ρ => A lv (vals.map (VE.den ρ))
 | .ret res outs, _, ρ => match ZkR P aps rs res outs with | some vs => ZtH _ (vs.map (VE.den ρ)) | none => Xe
def ZGg {p:Nat→Prop} (h:∃ k,p k):∃ k,p k∧∀ j,j < k→¬ p j:=by
 obtain ⟨k,c⟩:=h
 induction k using Nat.strongRecOn with
 | _ k ih =>
  by_cases hj:∃ j,j < k∧p j
  ·obtain ⟨j,a,b⟩:=hj;exact ih j a b
  ·exact ⟨k,c,fun j a b=>hj ⟨j,a,b⟩⟩
section
variable {P:Program} {Φ:List (FuncId×Fun)} {aps:List AP} {rs:List RSh}
def ZcH (a:Zre P Φ) {r:ShsT (Zcj rs aps)} {R:AV→List AV→Prop} (g:∀ x H,Zax P (H++[x]) (JK aps (ZeQ _ r) (ZmA rs)++[Wy rs (ZeQ _ r) 0])→R x H) :
  ∀ (t:STree) (A':Nat→List V→Option (ShsT (Zcj rs aps))) (A:Nat→List V→Prop) (ρ:Nat→V),(∀ lv vs,A' lv vs=Xa r→A lv vs)→t.run P Φ aps rs A' ρ=Xa r→t.wp P R A ρ
 | .stuck _, _, _, _, _, h => by simp [STree.run] at h
 | .branch b t e, A', A, ρ, hA, h => by
  simp only [STree.run] at h;refine ⟨fun s=>?_,fun s=>?_⟩
  ·rw [P4 s] at h;exact ZcH a g t A' A ρ hA h
  ·rw [P3 (by rw [s];exact Bool.false_ne_true)] at h;exact ZcH a g e A' A ρ hA h
 | .req p t, A', A, ρ, hA, h => by
  obtain ⟨c,o⟩:=Zqj (show @Zy _ (p.den ρ) (p.decDen ρ) (t.run P Φ aps rs A' ρ)=Xa r from h);exact ⟨c,ZcH a g t A' A ρ hA o⟩
 | .elem l i sh n t, A', A, ρ, hA, h => by
  obtain ⟨L,cs,x,c,o,y⟩:=Zob (show Zj (l.den ρ) (i.den ρ) sh (fun r=>t.run P Φ aps rs A' (bind ρ n (ZeQ sh r)))=Xa r from h);refine ⟨ZeQ sh x,L,?_,ZcH a g t A' A _ hA y⟩;rw [c,Zmf sh cs x n _ o (Zm4.bind ρ n _)]
 | .nilq l n t, A', A, ρ, hA, h => fun b s => ZcH a g t A' A _ hA (ZoP (show @ZDb _ (decS _) (l.den ρ) (fun b => t.run P Φ aps rs A' (bind ρ n [.b b])) = Xa r from h) b s)
 | .call f args res outs n sh t, A', A, ρ, hA, h => by
  simp only [STree.run] at h;split at h
  ·rename_i S M;split at h
   ·rename_i d;obtain ⟨vs,x,c,o,y⟩:=Zoh h;have J:=ZmV _ x;have N:(Zcj S.res S.args).length=ZmA S.res+(Kj S.args).length:=by simp [Zcj,ZmA]
    refine ⟨ZeQ _ x,?_,ZcH a g t A' A _ hA y⟩;rw [Zss d.1 (by omega),Vv S.args outs (ZmA S.res) d.2.1 (by omega)];exact Kg.freeze S.args _ [] ((ZlV a M vs x o).stronger (Zka d.2.2 c)) (Zf9 _ _ _ c)
   ·cases h
  ·cases h
 | .loop lv init n t, A', A, ρ, hA, h => by
  let F:=fun (z:List V→Option (ShsT (Zcj rs aps))) vs=>t.run P Φ aps rs (Zx7 A' lv z) (bind Zj2 n vs)
  have O:Ze5 F Zr (init.map (VE.den ρ))=Xa r:=h
  have v:∀ vs,∃ m:Nat,(∃ k,Ze5 F k vs=Xa r)→Ze5 F m vs=Xa r∧∀ j,Ze5 F j vs=Xa r→m≤j:=by
   intro vs;by_cases w:∃ k,Ze5 F k vs=Xa r
   ·obtain ⟨m,c,o⟩:=ZGg w;exact ⟨m,fun _=>⟨c,fun j Q=>Nat.le_of_not_lt fun C=>o j C Q⟩⟩
   ·exact ⟨0,fun h=>(w h).elim⟩
  obtain ⟨m,v⟩:=Classical.axiomOfChoice v;refine ⟨fun vs=>∃ k,Ze5 F k vs=Xa r,m,⟨Zr,O⟩,fun vs _ w=>?_⟩;obtain ⟨c,o⟩:=v vs w
  cases hmv:m vs with
  | zero => rw [hmv] at c; cases c
  | succ j =>
   rw [hmv] at c;refine ZcH a g t (Zx7 A' lv (Ze5 F j)) _ _ (fun D u q=>?_) c;unfold Zx7 at q;unfold ZAC;split at q
   ·rename_i E;rw [P4 E];refine ⟨⟨j,q⟩,?_⟩;have:=(v u ⟨j,q⟩).2 j q;omega
   ·rename_i E;rw [P3 E];exact hA D u q
 | .again lv vals, A', A, ρ, hA, h => hA lv _ h
 | .ret res outs, A', A, ρ, hA, h => by
  simp only [STree.run] at h;split at h
  ·rename_i vs G;refine g _ _ ?_;rw [ZjU _ _ _ h];exact Zn9 G
  ·cases h
end
def ZcY (P:Program):Nat→TypeId→Bool
 | 0, _ => Xc
 | d + 1, T =>
  match P.underlying T with
  | some (.int _) => Xb
  | some .bool => Xb
  | some .string => Xb
  | some (.slice e) => ZcY P d e && decide (0 < P.cellsOf e)
  | some (.struct fs) => (fs.toList.all fun f => ZcY P d f.type) && decide (P.cellsOf T = (fs.toList.map fun f => P.cellsOf f.type).sum) &&
    (fs.toList.zipIdx.all fun p=>decide (p.1.offset=((fs.toList.take p.2).map fun f=>P.cellsOf f.type).sum))
  | _ => Xc
def Ww (w:World):Nat→Nat:=fun b=>match w.heap[b]? with | some (.cells c _ _)=>c.size | _=>0
def Zqv {w:World} {b o:Nat} {u:Value} (h:w.cell? ⟨b,o,Xe⟩=Xa u):o < Ww w b:=by
 unfold World.cell? at h;unfold Ww;split at h
 ·rename_i c t d e;have f:c[o]? = Xa u:=by simpa using h
  have a:w.heap[b]? = Xa (.cells c t d):=e;rw [a];exact (Array.getElem?_eq_some_iff.1 f).1
 ·cases h
def KO.flat {w:World} {lim:Nat→Nat} : ∀ (e:List (List AV)) (us:List (List Value)),e.length=us.length→(∀ (i:Nat) (a:List AV) (u:List Value),e[i]? = Xa a→us[i]? = Xa u→KO w lim a u)→KO w lim e.flatten us.flatten
 | [], [], _, _ => KO.nil w lim
 | [], _ :: _, h, _ => by simp at h
 | _ :: _, [], h, _ => by simp at h
 | a :: e, u :: us, h, hr => by
  have d:=hr 0 a u rfl rfl;have g:=KO.flat e us (by simpa using h) fun i j k l m=>hr (i+1) j k (by simpa using l) (by simpa using m);refine ⟨by simp [d.1,g.1],fun c b=>?_,fun i c v b f=>?_⟩
  ·rw [XD,Xz] at b;rcases b with b | b
   ·exact d.2.1 c b
   ·exact g.2.1 c b
  ·rw [XD] at b f;by_cases hi:i < a.length
   ·rw [XL hi] at b;rw [XL (by rw [← d.1];exact hi)] at f;exact d.2.2 i c v b f
   ·rw [XH (by omega)] at b;rw [XH (by rw [← d.1];omega),← d.1] at f;exact g.2.2 _ c v b f
def ZtV {d:Type} : ∀ (a:List Nat) (cs:List d),cs.length=a.sum→∃ b:List (List d),b.length=a.length∧b.flatten=cs∧∀ (i:Nat) (n:Nat),a[i]? = Xa n→b[i]? = Xa ((cs.drop (a.take i).sum).take n)
 | [], cs, h => ⟨[], rfl, by simp at h; simp [h], by simp⟩
 | n :: a, cs, h => by
  obtain ⟨b,e,f,g⟩:=ZtV a (cs.drop n) (by simp only [List.sum_cons] at h;simp;omega);refine ⟨cs.take n::b,by simp [e],by rw [XD,f,List.take_append_drop],fun i m c=>?_⟩
  cases i with
  | zero => simp at c; subst c; simp
  | succ i =>
   have:=g i m (by simpa using c);simp only [Uz,this,List.take_succ_cons,List.sum_cons,List.drop_drop]
def Za1 {d:Type} {Q:Nat→d→Prop} : ∀ (n:Nat),(∀ i,i < n→∃ b,Q i b)→∃ l:List d,l.length=n∧∀ (i:Nat) (b:d),l[i]? = Xa b→Q i b
 | 0, _ => ⟨[], rfl, by simp⟩
 | n + 1, h => by
  obtain ⟨l,f,g⟩:=Za1 n fun i e=>h i (by omega);obtain ⟨b,j⟩:=h n (by omega);refine ⟨l++[b],by simp [f],fun i c a=>?_⟩;by_cases e:i < l.length
  ·rw [XL e] at a;exact g i c a
  ·rw [XH (by omega)] at a
   have k:i-l.length=0:=by
    have:=(XA.1 a).1;simp at this;omega
   rw [k] at a;simp only [XQ,Xg] at a;subst a;have:i=n:=by omega
   rw [this];exact j
def Zfi {s:Nat} {cell:Nat→Option Value} : ∀ (l:List (List Value)) (o:Nat),(∀ (i:Nat) (us:List Value),l[i]? = Xa us→us.length=s∧∀ (k:Nat) (u:Value),us[k]? = Xa u→cell (o+i*s+k)=Xa u)→
  ∀ (j:Nat) (u:Value),l.flatten[j]? = Xa u→cell (o+j)=Xa u
 | [], o, _, j, u, h => by simp at h
 | us :: l, o, h, j, u, hj => by
  obtain ⟨m,b⟩:=h 0 us rfl;rw [XD] at hj;by_cases hlt:j < us.length
  ·rw [XL hlt] at hj;have:=b j u hj;simpa using this
  ·rw [XH (by omega)] at hj
   have:=Zfi l (o+s) (fun i a c=>by
    obtain ⟨d,e⟩:=h (i+1) a (by simpa using c);refine ⟨d,fun k f g=>?_⟩;have:=e k f g;rw [Nat.add_mul,Nat.one_mul] at this;rw [show o+s+i*s+k=o+(i*s+s)+k by omega];exact this) (j-us.length) u hj
   rw [show o+s+(j-us.length)=o+j by omega] at this;exact this
def ZnD {H:Type} {f:Func} {s:ChangeSpec} {c n d o:Bool} {W W':World} {args:Array Value} {v:Value} {ds q:List (DataW H)} {before pa:List MemPlace} {P:Program} {enc:TypeId×Value→H}
  (x:DataW.Whole enc P f.params.toList s.vars c W args.toList ds q before)
  (k:∀ (b:Nat) (sp:Nat→Bool) (D:Bool),DataW.TrodAll enc P W' b sp D f.resultTypes.toList (v.resultList f.resultTypes.size) (s.fn H (ds++q)).results [])
  (e:∀ sp:Nat→Bool,(∀ p∈before,sp p.block=Xb)→DataW.TrodAll enc P W' 0 sp Xb f.params.toList args.toList (s.fn H (ds++q)).args pa)
  (g:∀ sp:Nat→Bool,(∀ p∈before,sp p.block=Xb)→DataW.TrodVars enc P W' sp s.vars (s.fn H (ds++q)).vars [])
  (i:before=pa++[]) (E:W.keptBut W' (·∈before)) (y:∀ a:Addr,a.block < W.heap.size→W'.frozen? a=W.frozen? a)
  (z:∀ (j:Nat) (t:TypeId) (r:Value),f.resultTypes[j]? = Xa t→(v.resultList f.resultTypes.size)[j]? = Xa r→Value.okWide P W' .any 0 t r) :
  s.post enc P f c n d o W args v W':=by
 have u:∀ p∈before,p.block < W.heap.size:=fun p h=>x.lt p h;have l:∀ p∈before,(fun b=>decide (b < W.heap.size)) p.block=Xb:=fun p h=>decide_eq_true (u p h);refine ⟨ds,q,before,[],pa,[],x,k _ _ _,e _ l,g _ l,World.keptBut_mono (fun p h=>⟨h,?_⟩) E,fun _=>?_⟩
 ·refine Or.inr (Or.inl ?_)
  rwa [i,XY] at h
 ·have A:=x;obtain ⟨_,_,_,_,_,G,J⟩:=A;refine ⟨z,_,_,([]++pa)++[],⟨[]++pa,[],ChangeShapes.trodAll_append (e _ fun _ _=>rfl) (k _ _ _),g _ fun _ _=>rfl,rfl,?_,?_⟩,?_⟩
  ·intro b off h;have m:MemPlace.cell b off∈before:=by rw [i];simpa using h
   rw [y _ (u _ m)];exact G b off m
  ·intro L;have C:=J L;rw [i] at C;simpa using C
  ·intro p h _;rw [i];simpa using h
section
variable {P:Program} {H:Type} {enc:TypeId×Value→H} {w:World} {sp:Nat→Bool} {held:Bool}
def ZsW {lim:Nat→Nat} {a:List AV} {v:Value} (h:KO w lim a [v]):∃ x,a = [x]∧x.isCell=Xb∧Rep w lim x v:=by
 obtain ⟨x,rfl⟩:=List.length_eq_one_iff.1 (by simpa using h.1:a.length=1);exact ⟨x,rfl,h.2.1 x (by simp),h.2.2 0 x v rfl rfl⟩
def ZiU {w':World} {b:Nat→Bool} (g:laidOutB P=Xb):∀ (c:List TypeId) (vs:List Value) (ds:List (DataW H)) (d:List MemPlace),(∀ t∈c,t < P.types.size∧P.readableRec t=Xb)→
  DataW.TrodAll enc P w 0 (fun _=>Xb) Xb c vs ds d→(∀ p∈d,w.sameAt w' p)→(∀ p∈d,b p.block=Xb)→DataW.TrodAll enc P w' 0 b Xb c vs ds d
 | [], [], [], _, _, h, _, _ => h
 | t :: c, v :: vs, x :: ds, d, ht, h, hs, hp => by
  obtain ⟨p,q,⟨n,k⟩,l,rfl⟩:=h;refine ⟨p,q,⟨n,?_⟩,ZiU g c vs ds q (fun i f=>ht i (by simp [f])) l (fun z a=>hs z (by simp [a])) (fun z a=>hp z (by simp [a])),rfl⟩;have j:=(ht t (by simp)).2;exact DataW.trod_stays (T:=InBook P t) (kids_book g j) (fun {i e} f m=>book_sized j f m) (fun h=>by cases h) ⟨(ht t (by simp)).1,book_self t⟩ k (fun z a=>hs z (by simp [a])) (fun z a=>hp z (by simp [a]))
 | [], _ :: _, _, _, _, h, _, _ => h.elim
 | [], [], _ :: _, _, _, h, _, _ => h.elim
 | _ :: _, [], _, _, _, h, _, _ => h.elim
 | _ :: _, _ :: _, [], _, _, h, _, _ => h.elim
end
open Go
def blank:Char:=Char.ofNat 32
def Zk2 (r:List Char):wordsSigns (blank::r) = []::wordsSigns r:=by
 show wordsSigns (Char.ofNat 32::r)=_;rw [wordsSigns]
def Zlc (c:Char) (r:List Char) (h:c≠blank):wordsSigns (c::r)=match wordsSigns r with | w::ws=>(c::w)::ws | []=>[[c]]:=by
 rw [wordsSigns]
 ·rfl
 ·exact h
def Zae (r:List Char):∀ (w:List Char),(w.all fun c=>c != blank)=Xb→wordsSigns (w++blank::r)=w::wordsSigns r
 | [], _ => Zk2 r
 | c :: w, h => by
  rw [XU,Xj] at h;rw [XV,Zlc c _ (by simpa using h.1),Zae r w h.2]
def Zig {L:List Char} (h1:((L.take 7).all fun c=>c != blank)=Xb) (h2:(((L.drop 8).take 64).all fun c=>c != blank)=Xb) (h3:(((L.drop 73).take 3).all fun c=>c != blank)=Xb)
  (hL : L = L.take 7 ++ blank :: ((L.drop 8).take 64 ++ blank :: ((L.drop 73).take 3 ++ blank :: L.drop 77))) (hm : ((L.take 7 == "harness".toList || L.take 7 == "ownmain".toList) && isSumSigns ((L.drop 8).take 64)) = Xb)
  (hc : (L.drop 73).take 3 = "cut".toList) : ∃ ws, behindMainWord (wordsSigns L) = "cut".toList :: ws := by
 refine ⟨wordsSigns (L.drop 77),?_⟩
 have h:wordsSigns L=L.take 7::(L.drop 8).take 64::(L.drop 73).take 3::wordsSigns (L.drop 77):=by
  rw [hL,Zae _ _ h1,Zae _ _ h2,Zae _ _ h3,← hL]
 rw [h,behindMainWord,P4 hm,hc]
def enters_of {P : Program} {ws : List (List Char)} (h : behindMainWord (wordsSigns P.initOrder.toList) = "cut".toList :: ws) (h1 : P.laysLater = Xc) (h2 : P.bearsReflect = Xc) (h3 : P.doorFits [] = Xb) : P.mayEnter = Xb := by
 unfold Program.mayEnter;rw [h];have hs : stripLifts liftWords ("cut".toList :: ws) = ([], "cut".toList :: ws) := by kernel_rfl
 simp only [hs];simp [h1,h2,h3]
def lifts_of {P : Program} {ws : List (List Char)} (h : behindMainWord (wordsSigns P.initOrder.toList) = "cut".toList :: ws) : P.headLifts = [] := by
 unfold Program.headLifts;rw [h];have hs : stripLifts liftWords ("cut".toList :: ws) = ([], "cut".toList :: ws) := by kernel_rfl
 simp only [hs];simp
def final_of {P : Program} {ws : List (List Char)} (h : behindMainWord (wordsSigns P.initOrder.toList) = "cut".toList :: ws) : P.liftsFinal = Xc := by
 unfold Program.liftsFinal;rw [lifts_of h,h];have hs : ("cut".toList == "carried".toList) = Xc := by decide +kernel
 simp [hs]
def make_of {P : Program} {ws : List (List Char)} (h : behindMainWord (wordsSigns P.initOrder.toList) = "cut".toList :: ws) : P.make = Xa .cut := by
 unfold Program.make;rw [h];simp
abbrev LL:Type:=List (List AV)
abbrev E0:LL:=[]
def Zeg (l:List (List AV)):Prop:=∀ e∈l,∃ n:Int,0≤n∧n≤255∧e = [.val (.int .u8 n)]
def Z6 (a b:List (List AV)) (k:Nat):Prop:=(a.length+b.length)*(k+1)≤Yh
def ZuV (a:Int) (k:Nat):Prop:=0≤a∧a.toNat*(k+1)≤Yh
instance (l:List (List AV)):Decidable (Zeg l):=Zmi l
instance (a b:List (List AV)) (k:Nat):Decidable (Z6 a b k):=inferInstanceAs (Decidable ((a.length+b.length)*(k+1)≤Yh))
instance (a:Int) (k:Nat):Decidable (ZuV a k):=inferInstanceAs (Decidable (0≤a∧a.toNat*(k+1)≤Yh))
instance (l:List (List AV)):Decidable (l≠[]):=Zq8 l
def CQ:(∀ a b:Int,(P0 .lss a b=Xb)=(a < b))∧(∀ a b:Int,(P0 .lss a b=Xc)=(b≤a))∧(∀ a b:Int,(P0 .leq a b=Xb)=(a≤b))∧(∀ a b:Int,(P0 .leq a b=Xc)=(b < a))∧
  (∀ a b:Int,(P0 .gtr a b=Xb)=(b < a))∧(∀ a b:Int,(P0 .gtr a b=Xc)=(a≤b))∧(∀ a b:Int,(P0 .geq a b=Xb)=(b≤a))∧(∀ a b:Int,(P0 .geq a b=Xc)=(a < b))∧
  (∀ a b:Int,(P0 .eql a b=Xb)=(a=b))∧(∀ a b:Int,(P0 .eql a b=Xc)=(a≠b))∧(∀ a b:Int,(P0 .neq a b=Xb)=(a≠b))∧(∀ a b:Int,(P0 .neq a b=Xc)=(a=b))∧
  (∀ b:Bool,(¬b=Xb)=(b=Xc))∧(∀ b:Bool,(¬b=Xc)=(b=Xb))∧(∀ b:Bool,((!b)=Xb)=(b=Xc))∧(∀ b:Bool,((!b)=Xc)=(b=Xb))∧
  (∀ a b:Bool,((a&&b)=Xb)=(a=Xb∧b=Xb))∧(∀ a b:Bool,((a||b)=Xb)=(a=Xb∨b=Xb))∧(∀ {p:Prop} [Decidable p],(decide p=Xb)=p)∧(∀ {p:Prop} {_:Decidable p},decide p=Xc↔¬p)∧
  ((Xc=Xb)=False)∧((Xb=Xc)=False)∧(∀ {c d:Type} (a:c) (f:c→Option d),(Xa a).bind f=f a)∧(∀ {c:Type} (x y:c),(Xa x=Xa y)=(x=y))∧
  (∀ p:Prop,(False↔p) = ¬p)∧(∀ p:Prop,(True↔p)=p)∧(∀ p:Prop,(p↔False) = ¬p)∧(∀ p:Prop,(p↔True)=p):=
 ⟨ZK,ZN,ZL,ZJ,ZI,ZG,ZM,ZO,ZP,ZF,ZE,ZH,Bool.not_eq_true,Bool.not_eq_false,Bool.not_eq_true',Bool.not_eq_false',Xj,Bool.or_eq_true,
  @decide_eq_true_eq,@decide_eq_false_iff_not,Bool.false_eq_true,Bool.true_eq_false,@Option.bind_some,@Option.some.injEq,false_iff,true_iff,iff_false,iff_true⟩
def Jf {d:Type} {c:Prop} [Decidable c] {a b x:d} (e:c→a=x) (f:¬ c→b=x):(if c then a else b)=x:=by
 by_cases h:c
 ·rw [P4 h];exact e h
 ·rw [P3 h];exact f h
def Ztt {γ:Type} {p:Prop} {_:Decidable p} {a x:Option γ} (h:p) (b:a=x):Zy p a=x:=by rw [Zg h];exact b
def STree.next:STree→STree
 | .branch _ t _ => t
 | .req _ t => t
 | .elem _ _ _ _ t => t
 | .nilq _ _ t => t
 | .call _ _ _ _ _ _ t => t
 | .loop _ _ _ t => t
 | t => t
def STree.other:STree→STree
 | .branch _ _ e => e
 | t => t
def STree.nexts:Nat→STree→STree
 | 0, t => t
 | k + 1, t => STree.nexts k t.next
def STree.go:STree→List Nat→STree
 | t, [] => t
 | t, 0 :: p => t.next.go p
 | t, 1 :: p => t.other.go p
 | t, k :: p => (STree.nexts k t).go p
@[reducible] def d2 {a b γ:Type} (r:a×b×γ):γ:=r.2.2
@[reducible] def d4 {b c γ d a:Type} (r:b×c×γ×d×a):a:=r.2.2.2.2
@[reducible] def d8 {a b c d e f g h i:Type} (r:a×b×c×d×e×f×g×h×i):i:=d4 (d4 r)
@[reducible] def P2 {a b c d e f g h i j k l m n o p q:Type} (r:a×b×c×d×e×f×g×h×i×j×k×l×m×n×o×p×q):q:=d8 (d8 r)
@[reducible] def d6 {a b c d e f g:Type} (r:a×b×c×d×e×f×g):g:=d2 (d4 r)
@[reducible] def df {a b c d e f g h i a1 b1:Type} (r:a×b×c×d×e×f×g×h×i×a1×b1):b1:=d2 (d8 r)
@[reducible] def dg {a b c d e f g h i a1 b1 c1 d1:Type} (r:a×b×c×d×e×f×g×h×i×a1×b1×c1×d1):d1:=d4 (d8 r)
@[reducible] def dh {a b c d e f g h i a1 b1 c1 d1 e1 f1:Type} (r:a×b×c×d×e×f×g×h×i×a1×b1×c1×d1×e1×f1):f1:=d2 (d4 (d8 r))
@[reducible] def di {a b c d e f g h i a1 b1 c1 d1 e1 f1 g1 h1 i1 a2 b2 c2 d2 e2 f2 g2 h2 i2 a3 b3 c3 d3 e3 f3:Type} (r:a×b×c×d×e×f×g×h×i×a1×b1×c1×d1×e1×f1×g1×h1×i1×a2×b2×c2×d2×e2×f2×g2×h2×i2×a3×b3×c3×d3×e3×f3):f3:=P2 (P2 r)
@[reducible] def dj {a b c d e f g h i a1 b1 c1 d1 e1 f1 g1 h1 i1 a2 b2 c2 d2 e2 f2 g2 h2 i2 a3 b3 c3 d3 e3 f3 g3 h3 i3 a4 b4 c4 d4 e4 f4 g4 h4 i4 a5 b5 c5 d5:Type} (r:a×b×c×d×e×f×g×h×i×a1×b1×c1×d1×e1×f1×g1×h1×i1×a2×b2×c2×d2×e2×f2×g2×h2×i2×a3×b3×c3×d3×e3×f3×g3×h3×i3×a4×b4×c4×d4×e4×f4×g4×h4×i4×a5×b5×c5×d5):d5:=P2 (di r)
@[reducible] def dk {a b c d e f g h i a1 b1 c1 d1 e1 f1 g1 h1 i1 a2 b2 c2 d2 e2 f2 g2 h2 i2 a3 b3 c3 d3 e3 f3 g3 h3 i3 a4 b4 c4 d4 e4 f4 g4 h4 i4 a5 b5 c5 d5 e5 f5 g5 h5 i5 a6 b6 c6 d6 e6 f6 g6 h6 i6 a7 b7:Type} (r:a×b×c×d×e×f×g×h×i×a1×b1×c1×d1×e1×f1×g1×h1×i1×a2×b2×c2×d2×e2×f2×g2×h2×i2×a3×b3×c3×d3×e3×f3×g3×h3×i3×a4×b4×c4×d4×e4×f4×g4×h4×i4×a5×b5×c5×d5×e5×f5×g5×h5×i5×a6×b6×c6×d6×e6×f6×g6×h6×i6×a7×b7):b7:=P2 (dj r)
@[reducible] def dl {a b c d e f g h i a1 b1 c1 d1 e1 f1 g1 h1 i1 a2 b2 c2 d2 e2 f2 g2 h2 i2 a3 b3 c3 d3 e3 f3 g3 h3 i3 a4 b4 c4 d4 e4 f4 g4 h4 i4 a5 b5 c5 d5 e5 f5 g5 h5 i5 a6 b6 c6 d6 e6 f6 g6 h6 i6 a7 b7 c7 d7 e7 f7 g7 h7 i7 a8 b8 c8 d8 e8 f8 g8 h8 i8:Type} (r:a×b×c×d×e×f×g×h×i×a1×b1×c1×d1×e1×f1×g1×h1×i1×a2×b2×c2×d2×e2×f2×g2×h2×i2×a3×b3×c3×d3×e3×f3×g3×h3×i3×a4×b4×c4×d4×e4×f4×g4×h4×i4×a5×b5×c5×d5×e5×f5×g5×h5×i5×a6×b6×c6×d6×e6×f6×g6×h6×i6×a7×b7×c7×d7×e7×f7×g7×h7×i7×a8×b8×c8×d8×e8×f8×g8×h8×i8):i8:=P2 (dk r)
def AP.hp:AP→HP
 | .c s => .c s
 | .agg l => .agg l
 | .box l => .box l
 | .gbox l => .gbox l
 | .clo g ds => .clo g ds
 | .dead => .dead
def Zby:List AP→Nat→List SV
 | [], _ => []
 | a :: r, n => Zry a.hp n :: Zby r (n + a.n)
def Zya:List AP→Nat
 | [] => 0
 | a :: r => a.n + Zya r
def apsFine (l:List AP):Bool:=l.all fun a=>a.hp.fine
def ZsT (a:AP) (us:List V) (j:Nat):Zpe a us j=ZaW a.hp us j:=by cases a<;>rfl
def Zgd:∀ (l:List AP) (n:Nat) (us:List V),apsFine l=Xb→(Zby l n).map (SV.den (ZBk us))=VV l us n
 | [], _, _, _ => rfl
 | a :: r, n, us, h => by
  simp only [apsFine,XU,Xj] at h;rw [Zby,Xn,VV,ZsT,Zpy (m:=n) h.1 (ρ:=ZBk us) (us:=us) (fun j _=>rfl),Zgd r (n+a.n) us h.2]
def Zil:∀ (l:List AP) (n:Nat),∀ x∈Zby l n,x.bd (n+Zya l)
 | [], _ => by simp [Zby]
 | a :: r, n => by
  intro x b;simp only [Zby,Xs] at b;rcases b with rfl | b
  ·have d:(Zry a.hp n).bd (n+a.n):=by
    cases a with
    | c s => cases s <;> exact Nat.lt_succ_self n
    | agg l => exact Ky l n
    | box l => exact Kr l n
    | gbox l => exact Kr l n
    | clo g ds => trivial
    | dead => trivial
   exact SV.bd_mono (by simp only [Zya];omega) _ d
  ·have:=Zil r (n+a.n) x b;rw [Zya,← Ui];exact this
section
variable {P:Program}
def fun_ok {Φ : List (FuncId × Fun)} {E : Env} (hm : P.follows .mixedOrders = Xb) (hps : PlainSound P E.plain) {f : FuncId} {fn : Func} {S : Fun} {n : Nat} {T : STree} (hf : P.funcs[f]? = Xa fn) (hname : (fn.name == "runtime.NumGoroutine") = Xc)
  (hfine:apsFine S.args=Xb) (hn:Zya S.args=n) (eq:ZDf P E fn (Zby S.args 0) n=T) (hΦ:Zre P Φ) (hg:∀ vs,S.g vs=T.run P Φ S.args S.res (fun _ _=>Xe) (ZBk vs)):S.Ok P f:=by
 intro vs r h;rw [hg] at h
 have:=callOk_ofR (R:=fun x os=>Zax P (os++[x]) (JK S.args (ZeQ _ r) (ZmA S.res)++[Wy S.res (ZeQ _ r) 0])) hm hps hf hname (args:=Zby S.args 0) (n:=n) (ρ:=ZBk vs)
  (fun a ha=>by have:=Zil S.args 0 a ha;rwa [Nat.zero_add,hn] at this) (fun _ _ h=>h) (by rw [eq];exact ZcH hΦ (fun _ _ h=>h) T _ _ _ (fun _ _ h=>by cases h) h)
 rw [Zgd S.args 0 vs hfine] at this;exact this
end
def TyZ (P:Program):Nat→TypeId→List AV→Prop
 | 0, _, _ => False
 | d + 1, T, cs =>
  match P.underlying T with
  | some (.int k) => ∃ z, cs = [.val (.int k z)] ∧ (Lit.int k z).wf = Xb
  | some .bool => ∃ b, cs = [.val (.bool b)]
  | some .string => ∃ s, cs = [.val (.string s)]
  | some (.slice e) => ∃ xs : List (List AV), cs = [.slice Xc (P.cellsOf e) xs] ∧ xs.length * P.bytesOf e ≤ reachBytes ∧ xs.length ≤ maxLen ∧ ∀ x ∈ xs, TyZ P d e x
  | some (.struct fs) => ∃ a : List (List AV), cs = a.flatten ∧ a.length = fs.size ∧ ∀ (i : Nat) (f : Field) (p : List AV), fs[i]? = Xa f → a[i]? = Xa p → TyZ P d f.type p
  | _ => False
def ZdE {H:Type} {P:Program} {e:TypeId} {d:DataW H} {z:Nat} : ∀ {l:List (DataW H)},d∈l→z∈d.weights P e→z∈DataW.weightsAll P e l
 | y :: l, h, hz => by
  simp only [DataW.weightsAll];rcases Xs.1 h with rfl | h
  ·exact TA _ hz
  ·exact TU _ (ZdE h hz)
def Zbe {H:Type} {P:Program} {z:Nat} : ∀ (a us:List TypeId) (ds b:List (DataW H)),z∈DataW.weightsEach P a ds→z∈DataW.weightsEach P (a++us) (ds++b)
 | [], _, _, _, h => by simp [DataW.weightsEach] at h
 | _ :: _, _, [], _, h => by simp [DataW.weightsEach] at h
 | t :: a, us, d :: ds, b, h => by
  simp only [DataW.weightsEach,XV,Xz] at h ⊢;rcases h with h | h
  ·exact .inl h
  ·exact .inr (Zbe a us ds b h)
section
variable {P:Program} {H:Type} {enc:TypeId×Value→H} {w:World} {sp:Nat→Bool} {held:Bool}
def Zk7:∀ (d n:Nat) (T:TypeId) (cs:List Value) (x:DataW H×List MemPlace),ZcY P d T=Xb→(∀ z∈x.1.weights P T,z≤reachBytes)→DataW.trod enc P w 0 sp held n T cs=Xa x→∃ g,TyZ P d T g∧KO w (Ww w) g cs
 | 0, n, T, cs, x, J, _, _ => by simp [ZcY] at J
 | d + 1, n, T, cs, x, J, hz, h => by
  simp only [ZcY] at J;split at J
  ·rename_i k A;obtain ⟨z,rfl,_,hw⟩:=DataW.trod_int A h;refine ⟨[.val (.int k z)],?_,rfl,by simp [AV.isCell],fun i c u v r=>?_⟩
   ·simp only [TyZ,A];exact ⟨z,rfl,hw⟩
   ·cases i with
    | zero => simp at v r; subst v; subst r; exact .val rfl
    | succ i => simp at v
  ·rename_i A;obtain ⟨b,rfl,_⟩:=DataW.trod_bool A h;refine ⟨[.val (.bool b)],?_,rfl,by simp [AV.isCell],fun i c u v r=>?_⟩
   ·simp only [TyZ,A];exact ⟨b,rfl⟩
   ·cases i with
    | zero => simp at v r; subst v; subst r; exact .val rfl
    | succ i => simp at v
  ·rename_i A;obtain ⟨s,rfl,_⟩:=DataW.trod_string A h;refine ⟨[.val (.string s)],?_,rfl,by simp [AV.isCell],fun i c u v r=>?_⟩
   ·simp only [TyZ,A];exact ⟨s,rfl⟩
   ·cases i with
    | zero => simp at v r; subst v; subst r; exact .val rfl
    | succ i => simp at v
  ·rename_i e A;simp only [Xj,P5] at J;rcases DataW.trod_slice A h with ⟨rfl,_⟩ | ⟨a,len,cap,Zam,rest,m,_,rfl,S,_,hlc,hcm,hel,hcells,_,_⟩
   ·refine ⟨[.slice Xc (P.cellsOf e) []],?_,rfl,by simp [AV.isCell],fun i c u v r=>?_⟩
    ·simp only [TyZ,A];exact ⟨[],rfl,by simp,by simp,by simp⟩
    ·cases i with
     | zero => simp at v r; subst v; subst r; exact .sliceN
     | succ i => simp at v
   ·obtain ⟨l,M,C⟩:=Za1 (Q:=fun i (p:List Value×List AV)=>w.cells? 0 (a.add (i*P.cellsOf e)) (P.cellsOf e)=Xa p.1∧TyZ P d e p.2∧KO w (Ww w) p.2 p.1) len fun i G=>by
     have h1:=hcells i G;obtain ⟨y,hy⟩:∃ y,Zam[i]? = Xa y:=⟨_,Xp (by omega)⟩;rw [hy,Option.bind_eq_some_iff] at h1;obtain ⟨us,h2,h3⟩:=h1
     obtain ⟨g,h4,h5⟩:=Zk7 d m e us y J.1 (fun z aa=>hz z (by
      rw [S];simp only [DataW.weights,A];refine TQ _ (TA _ (ZdE (d:=y.1) ?_ aa));exact XB.2 ⟨y,Xt hy,rfl⟩)) h3
     exact ⟨(us,g),h2,h4,h5⟩
    have N:∀ p∈l,TyZ P d e p.2∧KO w (Ww w) p.2 p.1∧p.1.length=P.cellsOf e:=by
     intro p hp;obtain ⟨i,G⟩:=Uj.1 hp;obtain ⟨R,g2,g3⟩:=C i p G;exact ⟨g2,g3,(World.cells?_some R).2.1⟩
    refine ⟨[.slice Xc (P.cellsOf e) (l.map (·.2))],?_,rfl,by simp [AV.isCell],fun i c u v r=>?_⟩
    ·simp only [TyZ,A];refine ⟨_,rfl,?_,by simp;omega,fun y hy=>?_⟩
     ·have h0:=hz (((Zam.map (·.1)).length+(rest.map (·.1)).length)*P.bytesOf e) (by rw [S];simp only [DataW.weights,A];exact List.mem_cons_self ..);have h1:(l.map (·.2)).length≤(Zam.map (·.1)).length+(rest.map (·.1)).length:=by simp only [Xk];omega
      exact Nat.le_trans (Nat.mul_le_mul_right _ h1) h0
     obtain ⟨p,hp,rfl⟩:=XB.1 hy;exact (N p hp).1
    ·cases i with
     | succ i => simp at v
     | zero =>
      simp only [XQ,Xg] at v r;subst v;subst r
      cases l with
      | nil =>
       have:len=0:=by simpa using M.symm
       subst this;exact .sliceE (fun h=>by cases h)
      | cons p l' =>
       have O:∀ (j:Nat) (u:Value),((p::l').map (·.1)).flatten[j]? = Xa u→w.cell? ⟨a.block,a.off+j,Xe⟩=Xa u:=by
        refine Zfi (s:=P.cellsOf e) (cell:=fun o=>w.cell? ⟨a.block,o,Xe⟩) _ a.off fun i us G=>?_;rw [Xy] at G
        cases hpi:(p::l')[i]? with
        | none => simp [hpi] at G
        | some q =>
         simp only [hpi,XC,Xg] at G;subst G;obtain ⟨R,_,_⟩:=C i q hpi;obtain ⟨_,k2,k3⟩:=World.cells?_some R;refine ⟨k2,fun k u r=>?_⟩;have af:k < P.cellsOf e:=by rw [← k2];exact (XA.1 r).1
         have:=k3 k af;rw [r] at this
         have W:((a.add (i*P.cellsOf e)).add k).block=a.block∧((a.add (i*P.cellsOf e)).add k).off=a.off+i*P.cellsOf e+k:=by
          unfold Addr.add;split<;>split<;>simp_all
         have D:((a.add (i*P.cellsOf e)).add k).spot=Xe:=by
          unfold World.cell? at this;split at this
          ·split at this
           ·cases this
           ·rename_i hs;simpa using hs
          ·cases this
         have ag:(a.add (i*P.cellsOf e)).add k=⟨a.block,a.off+i*P.cellsOf e+k,Xe⟩:=by
          rw [← W.1,← W.2,← D]
         rw [ag] at this;exact this
       have D:a.spot=Xe:=by
        obtain ⟨R,_,_⟩:=C 0 p rfl;obtain ⟨_,k2,k3⟩:=World.cells?_some R;have:=k3 0 J.2;obtain ⟨u,r⟩:∃ u,p.1[0]? = Xa u:=⟨_,Xp (by rw [k2];exact J.2)⟩;rw [r] at this;have ha:(a.add (0*P.cellsOf e)).add 0=a:=by simp [Addr.add]
        rw [ha] at this;unfold World.cell? at this;split at this
        ·split at this
         ·cases this
         ·rename_i hs;simpa using hs
        ·cases this
       have ha:a=⟨a.block,a.off,Xe⟩:=by rw [← D]
       have E:((p::l').map (·.2)).length=len:=by rw [Xk];exact M
       rw [ha,← E]
       have X:KO w (Ww w) ((p::l').map (·.2)).flatten ((p::l').map (·.1)).flatten:=by
        refine KO.flat _ _ (by simp) fun i x us Y ab=>?_;rw [Xy] at Y ab
        cases hpi:(p::l')[i]? with
        | none => simp [hpi] at Y
        | some q =>
         simp only [hpi,XC,Xg] at Y ab;subst Y;subst ab;exact (C i q hpi).2.2
       have ad:∀ x∈(p::l').map (·.2),x.length=P.cellsOf e:=by
        intro x Y;obtain ⟨q,hq,rfl⟩:=XB.1 Y;obtain ⟨_,g2,g3⟩:=N q hq;rw [g2.1,g3]
       refine .sliceC (us:=((p::l').map (·.1)).flatten) ad (fun x Y=>?_) (fun h=>by cases h) (by rw [E];exact hlc) (fun ah=>?_) ?_ O X.2.2
       ·obtain ⟨q,hq,rfl⟩:=XB.1 Y;exact (N q hq).2.1.2.1
       ·have aj:0 < (((p::l').map (·.1)).flatten).length:=List.length_pos_iff.2 ah;have ac:=O ((((p::l').map (·.1)).flatten).length-1) _ (Xp (by omega));have:=Zqv ac;omega
       ·rw [← X.1,Ja _ _ ad]
  ·rename_i L A;simp only [Xj,P5,Xo] at J;obtain ⟨⟨h1,h2⟩,h3⟩:=J;obtain ⟨xs,m,_,S,E,ak,U⟩:=DataW.trod_struct A h;obtain ⟨ps,q1,q2,q3⟩:=ZtV (L.toList.map fun f=>P.cellsOf f.type) cs (by rw [E,h2]);have ai:ps.length=L.size:=by rw [q1];simp
   obtain ⟨l,M,C⟩:=Za1 (Q:=fun i (g:List AV)=>∃ (f:Field) (us:List Value),L[i]? = Xa f∧ps[i]? = Xa us∧TyZ P d f.type g∧KO w (Ww w) g us) L.size fun i G=>by
    have ae:L[i]? = Xa L[i]:=Array.getElem?_eq_getElem G;have hn:(L.toList.map fun f=>P.cellsOf f.type)[i]? = Xa (P.cellsOf L[i].type):=by simp [G]
    have h4:=q3 i _ hn;have h5:=U i _ ae;have Z:=h3 (L[i],i) (by rw [List.mem_zipIdx_iff_getElem?];simp [G]);simp only at Z;rw [Z,List.map_take] at h5;obtain ⟨y,hy⟩:∃ y,xs[i]? = Xa y:=⟨_,Xp (by omega)⟩;rw [hy] at h5
    obtain ⟨g,h6,h7⟩:=Zk7 d m _ _ y (h1 L[i] (by simp)) (fun z aa=>hz z (by
     rw [S];simp only [DataW.weights,A];exact DataW.weights_mem_each (j:=i) (t:=L[i].type) (d:=y.1) (by simp [G]) (by simp [hy]) z aa)) h5
    exact ⟨g,L[i],_,ae,h4,h6,h7⟩
   refine ⟨l.flatten,?_,?_⟩
   ·simp only [TyZ,A];refine ⟨l,rfl,M,fun i f p J hp=>?_⟩;obtain ⟨f',us,R,g2,g3,g4⟩:=C i p hp;rw [J] at R
    cases R
    exact g3
   ·rw [← q2];refine KO.flat _ _ (by rw [M,ai]) fun i g us ha r=>?_;obtain ⟨f',al,R,g2,g3,g4⟩:=C i g ha;rw [r] at g2
    cases g2
    exact g4
  ·cases J
def Zap (P:Program) (d:Nat) (T:TypeId) (x:AV):Prop:=
 match P.underlying T with
 | some (.struct _) => ∃ cs, x = .agg cs ∧ TyZ P d T cs
 | _ => x.isCell = Xb ∧ TyZ P d T [x]
def ZqS {d:Nat} {T:TypeId} {v:Value} {x:DataW H} {s:List MemPlace} {r:Reach} {base:Nat} (g:ZcY P d T=Xb) (o:∀ z∈x.weights P T,z≤reachBytes) (b:Value.okWide P w r base T v)
  (h:DataW.Trod enc P w 0 sp held T v x s):∃ y,Zap P d T y∧∀ X σ k,Jx P w (Ww w) X σ k y v:=by
 obtain ⟨n,h⟩:=h;obtain ⟨f,p,i⟩:=Zk7 d n T _ _ g o h
 cases d with
 | zero => simp [ZcY] at g
 | succ d =>
  have c:v.cells.toList = [v]→(∀ j,P.underlying T≠Xa (.struct j))→∃ y,Zap P (d+1) T y∧∀ X σ k,Jx P w (Ww w) X σ k y v:=by
   intro t l;rw [t] at i;obtain ⟨y,rfl,q,u⟩:=ZsW i;refine ⟨y,?_,fun X σ k=>(W9 q u).2⟩;unfold Zap;split
   ·rename_i j m;exact (l j m).elim
   ·exact ⟨q,p⟩
  simp only [ZcY] at g;split at g
  ·rename_i kd a;obtain ⟨z,o,_⟩:=DataW.trod_int a h;refine c ?_ (by rw [a];simp);simp only [Value.okWide,a,Cell.okWide] at b
   cases v<;>simp_all [Cell.ok,Value.cells]
  ·rename_i a;refine c ?_ (by rw [a];simp);simp only [Value.okWide,a,Cell.okWide] at b
   cases v<;>simp_all [Cell.ok,Value.cells]
  ·rename_i a;refine c ?_ (by rw [a];simp);simp only [Value.okWide,a,Cell.okWide] at b
   cases v<;>simp_all [Cell.ok,Value.cells]
  ·rename_i e a;refine c ?_ (by rw [a];simp);simp only [Value.okWide,a,Cell.okWide] at b
   cases v<;>simp_all [Cell.ok,Value.cells]
  ·rename_i j a;simp only [Value.okWide,a] at b;obtain ⟨cs,rfl,_,_⟩:=b;refine ⟨.agg f,?_,?_⟩
   ·unfold Zap;simp only [a];exact ⟨f,rfl,p⟩
   ·have:cs=cs.toList.toArray:=by simp
    intro X σ k;show Rep w (Ww w) (.agg f) (.agg cs);rw [this];exact .agg i.1 i.2.1 i.2.2
  ·cases g
def ZfL {d:Nat} {r:Reach} {base:Nat} : ∀ (a:List TypeId) (vs:List Value) (ds:List (DataW H)) (f:List MemPlace),(∀ t∈a,ZcY P d t=Xb)→(∀ z∈DataW.weightsEach P a ds,z≤reachBytes)→
  (∀ (j:Nat) (t:TypeId) (v:Value),a[j]? = Xa t→vs[j]? = Xa v→Value.okWide P w r base t v)→DataW.TrodAll enc P w 0 sp held a vs ds f→
  vs.length=a.length∧∃ xs:List AV,xs.length=a.length∧∀ (i:Nat) (t:TypeId) (x:AV) (v:Value),a[i]? = Xa t→xs[i]? = Xa x→vs[i]? = Xa v→Zap P d t x∧∀ X σ k,Jx P w (Ww w) X σ k x v
 | [], [], [], f, _, _, _, _ => ⟨rfl, [], rfl, by simp⟩
 | t :: a, v :: vs, x :: ds, f, hf, hz, hok, h => by
  obtain ⟨p,q,n,o,_⟩:=h;obtain ⟨y,s,u⟩:=ZqS (hf t (by simp)) (fun z b=>hz z (by simp only [DataW.weightsEach];exact TA _ b)) (hok 0 t v rfl rfl) n;obtain ⟨A,xs,C,D⟩:=ZfL a vs ds q (fun t c=>hf t (by simp [c])) (fun z b=>hz z (by simp only [DataW.weightsEach];exact TU _ b)) (fun j g l c e=>hok (j+1) g l (by simpa using c) (by simpa using e)) o;refine ⟨by simp [A],y::xs,by simp [C],fun i g E l c m e=>?_⟩
  cases i with
  | zero =>
   simp only [XQ,Xg] at c m e;subst c;subst m;subst e;exact ⟨s,u⟩
  | succ i => exact D i g E l (by simpa using c) (by simpa using m) (by simpa using e)
 | [], _ :: _, _, _, _, _, _, h => h.elim
 | [], [], _ :: _, _, _, _, _, h => h.elim
 | _ :: _, [], _, _, _, _, _, h => h.elim
 | _ :: _, _ :: _, [], _, _, _, _, h => h.elim
def ZeU {g:Func} {f:FuncId} {s:ChangeSpec} {l E m G:Bool} {tb:TypeId} {d:Nat} (hl:laidOutB P=Xb) (A:∀ t∈g.params.toList,ZcY P d t=Xb∧t < P.types.size∧P.readableRec t=Xb)
  (C:g.resultTypes = #[tb]) (R:P.underlying tb=Xa .bool) (n:s.vars = []) (hs:∀ ds,ds.length=g.params.size→s.fn H ds = { results:=[.lit (.bool Xb)],args:=ds })
  (J:∀ xs:List AV,xs.length=g.params.toList.length→(∀ (i:Nat) (t:TypeId) (x:AV),g.params.toList[i]? = Xa t→xs[i]? = Xa x→Zap P d t x)→∃ outs,Kg P f xs (B Xb) outs)
  (W:World) (base:Nat) (args:Array Value) (ds gs:List (DataW H)) (before:List MemPlace)
  (S:∀ (j:Nat) t v,g.params[j]? = Xa t→args[j]? = Xa v→Value.okWide P W .any base t v) (hW:DataW.Whole enc P g.params.toList s.vars l W args.toList ds gs before)
  (L:(DataW.weightsEach P (g.params.toList++s.plain.varTypes P) (ds++gs)).all (·≤reachBytes)=Xb) :
  Calls P f args W fun e W'=>∃ v,e = .returned v∧s.post enc P g l E m G W args v W':=by
 have T:=hW;obtain ⟨p,q,hA,hV,rfl,_,_⟩:=hW;rw [n] at hV;obtain ⟨rfl,rfl⟩:=ChangeShapes.trodVars_none hV
 have ab:∀ z∈DataW.weightsEach P g.params.toList ds,z≤reachBytes:=by
  intro z ac;refine of_decide_eq_true (Xo.1 L z ?_);exact Zbe _ _ _ _ ac
 obtain ⟨D,xs,U,M⟩:=ZfL (r:=.any) (base:=base) _ _ _ _ (fun t k=>(A t k).1) ab (fun j t v k u=>S j t v (by simpa using k) (by simpa using u)) hA
 have N:ds.length=g.params.size:=by
  have:∀ (X:List TypeId) (vs:List Value) (ds:List (DataW H)) (ps:List MemPlace),DataW.TrodAll enc P W 0 (fun _=>Xb) Xb X vs ds ps→ds.length=X.length:=by
   intro X
   induction X with
   | nil => intro vs ds ps h; cases vs <;> cases ds <;> simp_all [DataW.TrodAll]
   | cons t X ih =>
    intro vs ds ps h
    cases vs with
    | nil => exact h.elim
    | cons v vs =>
     cases ds with
     | nil => exact h.elim
     | cons x ds => obtain ⟨_, _, _, Y, _⟩ := h; simp [ih _ _ _ Y]
  simpa using this _ _ _ _ hA
 obtain ⟨outs,_,hc⟩:=J xs U fun i t x k hx=>by
  obtain ⟨v,u⟩:∃ v,args.toList[i]? = Xa v:=⟨_,Xp (by rw [D];exact (XA.1 k).1)⟩;exact (M i t x v k hx u).1
 have ad:xs.countP AV.isG=0:=by
  rw [List.countP_eq_zero];intro x hx hg;obtain ⟨i,Z⟩:=Uj.1 hx;have O:=(XA.1 Z).1;obtain ⟨v,u⟩:∃ v,args.toList[i]? = Xa v:=⟨_,Xp (by omega)⟩;obtain ⟨t,k⟩:∃ t,g.params.toList[i]? = Xa t:=⟨_,Xp (by omega)⟩;have hr:=(M i t x v k Z u).2 (fun _ _=>Xe) (fun _=>.dead) 0
  cases x<;>simp [AV.isG] at hg
  obtain ⟨v',b,_,_,h,_⟩:=hr
  cases h
 have c:=hc W (Ww W) (fun _ _=>Xe) args.toList (by rw [ad,D,U];exact Xr _) (fun i=>by
  cases hxi:xs[i]? with
  | none =>
   have:JG xs i = .dead:=by simp [JG,hxi]
   rw [this];trivial
  | some x =>
   have Z:=(XA.1 hxi).1;obtain ⟨v,u⟩:∃ v,args.toList[i]? = Xa v:=⟨_,Xp (by omega)⟩;obtain ⟨t,k⟩:∃ t,g.params.toList[i]? = Xa t:=⟨_,Xp (by omega)⟩;have h1:JG xs i=x:=by simp [JG,hxi]
   have Y:args.toList.getD i undef=v:=by rw [List.getD_eq_getElem?_getD,u];rfl
   rw [h1,Y];exact (M i t x v k hxi u).2 _ _ _) (fun _ _ _ _ _ h=>by cases h) (fun _ _ _ h=>by cases h)
 rw [Array.toArray_toList] at c;refine c.mono ?_;rintro e W' ⟨v,af,X',rfl,y,ae,aa,_,_,_⟩
 have u:v = .bool Xb:=by
  have h:=aa xs.length
  have h1:JG (outs++[B Xb]) xs.length=B Xb:=by
   simp only [JG];rw [XH (by omega),ae];simp
  have Y:Zc2 xs.length args.toList v xs.length=v:=P4 rfl;rw [h1,Y] at h;exact ZaF h
 subst u;have a:∀ b,b < W.heap.size→W'.heap[b]? = W.heap[b]?:=fun b hb=>(y.blk b hb (by rintro ⟨_,_,h⟩;cases h)).1
 have Q:∀ z∈p++[],W.sameAt W' z:=by
  intro z L;have O:=T.lt z L
  cases z with
  | cell b off =>
   show W'.cell? ⟨b,off,Xe⟩=W.cell? ⟨b,off,Xe⟩;unfold World.cell?;rw [a b O]
  | map b => exact a b O
 refine ⟨_,rfl,ZnD (pa:=p) T (fun b sp hd=>?_) (fun sp hp=>?_) (fun sp _=>?_) rfl ?_ y.frz ?_⟩
 ·rw [hs _ (by simpa using N),C];exact ⟨[],[],⟨1,by simp [DataW.trod,R,Value.cells]⟩,rfl,rfl⟩
 ·rw [hs _ (by simpa using N),XY];exact ZiU hl _ _ _ _ (fun t k=>(A t k).2) hA (fun z L=>Q z (by simpa using L)) (fun z L=>hp z (by simpa using L))
 ·rw [hs _ (by simpa using N),n];rfl
 ·refine ⟨y.os,y.output,fun i Z=>?_⟩;rw [a i Z]
  cases W.heap[i]? with
  | none => rfl
  | some o => cases o <;> simp
 ·exact RowKit.ok_one C rfl (RowKit.okWide_bool_mk R Xb)
end
end
end Go.AM
