import Derived.Test.YtigknndkmlhmfaaM3
import Derived.Orders
import Derived.LoopN
import Derived.Scope
import Derived.Laws.Cover3
import Derived.Laws.StructEq
import Derived.ChangeArms
import Derived.ChangeStays
import Derived.ChangeBook
import Derived.ChangeSame
import Derived.RowKit
import Derived.ChangeOld
import GoSem.ClaimJoined
import GoSem.ClaimOpenFrom
import Derived.KernelRfl
open Option renaming some→Xa,none→Xe,map_some→Xv,map_eq_some_iff→X9,bind_some→Tm,isNone_iff_eq_none→TN
open Bool renaming true→Xb,false→Xc,and_eq_true→Xx,not_eq_true'→UK,or_eq_true→US,false_eq_true→U5
open Option.some renaming injEq→Xf,inj→Xp
open List renaming length_map→Xi,mem_of_getElem?→Xj,map_cons→Xk,getElem?_map→Xl,mem_map→Xm,getElem?_eq_some_iff→Xn,getElem?_eq_getElem→Xq,length_append→Xr,mem_append→Xs,length_take→Xt,mem_cons→Xu,append_assoc→Xw,getElem_mem→Xy,getElem?_take→Xz,getElem?_append_right→XB,all_eq_true→XC,getElem?_append_left→XE,replicate→XG,mem_singleton→XH,getElem?_drop→XI,map_append→XJ,getElem?_cons_zero→XK,map_nil→XL,length_cons→XN,mem_of_mem_take→XP,mem_of_mem_drop→XS,mem_iff_getElem?→XU,length_drop→XV,nil_append→X4,cons_append→X6,nodup_cons→X7,eq_nil_of_length_eq_zero→Ub,length_set→Ud,mem_or_eq_of_mem_set→Ue,map_map→Uf,map_take→Ui,size_toArray→Uk,getElem?_cons_succ→Ul,range→Un,flatten_cons→Uo,length_nil→Up,getElem?_set_ne→Ur,append_nil→Us,map_set→Uv,getElem?_eq_none→Ux,getElem?_set→Uy,take_of_length_le→UA,map_toArray→UB,mem_cons_of_mem→UC,take_append_drop→UI,all_cons→UN,countP_cons→UZ,getElem?_toArray→U1,length_eq_one_iff→U9,drop_drop→Ta,foldl_cons→Tb,drop_zero→Tn,getD_eq_getElem?_getD→TQ,mem_zipIdx_iff_getElem?→TY
open Prod.mk renaming injEq→Xo
open Nat renaming le_refl→XA,lt_or_ge→XD,mul_le_mul_right→XF,zero_add→XM,lt_of_lt_of_le→XO,add_mul→XT,le_add_right→XX,le_trans→XY,zero_le→XZ,add_zero→Ug,succ_mul→Uj,lt_succ_self→Uu,lt_irrefl→U7,lt_trichotomy→Ty
open Array renaming toList_inj→XR,getElem?_eq_getElem→X8,getElem?_eq_some_iff→Ua,getD→Uc,toArray_toList→UE,getElem?_toList→UT,length_toList→UX,size_setIfInBounds→TZ
open Go.IntKind renaming wrap_i64→U6
set_option linter.unusedVariables false
set_option linter.unusedSimpArgs false
set_option linter.defProp false
namespace Go.AM
def Zi8 (ρ:Nat→V) (n:Nat) (l:List V):Prop:=∀ (j:Nat) (v:V),l[j]? = Xa v→ρ (n+j)=v
theorem Zi8.tail {ρ:Nat→V} {n:Nat} {v:V} {l:List V} (h:Zi8 ρ n (v::l)):ρ n=v∧Zi8 ρ (n+1) l:=
 ⟨h 0 v rfl,fun j u hj=>by rw [show n+1+j=n+(j+1) by omega];exact h (j+1) u (by simpa using hj)⟩
theorem Zi8.app {ρ:Nat→V} {n:Nat} {l l':List V} (h:Zi8 ρ n (l++l')):Zi8 ρ n l∧Zi8 ρ (n+l.length) l':=
  ⟨fun j v hj=>h j v (by rw [XE (Xn.1 hj).1];exact hj),
   fun j v hj=>by
    rw [show n+l.length+j=n+(l.length+j) by omega]
    exact h _ v (by rw [XB (by omega)];simpa using hj)⟩
theorem Zi8.bind (ρ:Nat→V) (n:Nat) (vs:List V):Zi8 (bind ρ n vs) n vs:=by
 intro j v hj
 unfold AM.bind
 rw [if_neg (by omega),show n+j-n=j by omega,hj]
 rfl
def vAt (us:List V) (j:Nat):V:=(us[j]?).getD (.i 0)
def Ky:Sh→V→AV
 | .int k, v => .val (.int k v.int)
 | .bool, v => .val (.bool v.bool)
 | .str, v => .val (.string v.str)
 | .slice s, v => .slice Xc s v.list
 | .own x e, v => .own x e v.list
def Jf:List Sh→List V→Nat→List AV
 | [], _, _ => []
 | s :: ss, us, j => Ky s (vAt us j) :: Jf ss us (j + 1)
theorem Zkf {s:Sh} (h:s.imm=Xb) (v:V):(Ky s v).isCell=Xb:=by cases s<;>simp [Sh.imm] at h<;>rfl
theorem Vt (pre post:List V) (v:V):vAt (pre++v::post) pre.length=v:=by simp [vAt]
theorem JE:∀ (l:List Sh) (us:List V) (j:Nat),(Jf l us j).length=l.length
 | [], _, _ => rfl
 | _ :: ss, us, j => by simp [Jf, JE ss us (j + 1)]
theorem Vq:∀ (l:List Sh) (us:List V) (j:Nat),l.all Sh.imm=Xb→∀ c∈Jf l us j,c.isCell=Xb
 | [], _, _, _ => by simp [Jf]
 | s :: ss, us, j, h => by
  rw [UN,Xx] at h
  intro c hc
  rcases Xu.1 hc with rfl | hc
  ·exact Zkf h.1 _
  ·exact Vq ss us (j+1) h.2 c hc
section
variable {P:Program} {ρ:Nat→V}
theorem Zfl {s:Sh} {x:SC} {v:VE} (h:Zp2 s x=Xa v):YT P (x.den ρ) (Ky s (v.den ρ)):=by
 unfold Zp2 at h
 split at h
 ·split at h
  ·simp only [Xf] at h;subst h;rename_i hk;subst hk;exact .same (.inl rfl)
  ·cases h
 ·simp only [Xf] at h;subst h;exact .same (.inl rfl)
 ·simp only [Xf] at h;subst h;exact .same (.inl rfl)
 ·split at h
  ·simp only [Xf] at h;subst h;rename_i hk;subst hk;exact .imm
  ·split at h
   ·simp only [Xf] at h;subst h;exact .immN
   ·cases h
 ·split at h
  ·split at h
   ·rename_i hlt
    simp only [Xf] at h;subst h;exact .give hlt
   ·cases h
  ·cases h
 ·cases h
theorem ZgL {l:LE} (h:l.isNil=Xb):l = .nil:=by cases l<;>first | rfl | cases h
theorem ZcO {s:Sh} {x:Bool} {e:TypeId} {l:LE} {v:VE} (h:ZcP P s x e l=Xa v):YT P (.own x e (l.den ρ)) (Ky s (v.den ρ)):=by
 unfold ZcP at h
 split at h
 ·split at h
  ·simp only [Xf] at h
   subst h
   rename_i hk
   obtain ⟨rfl,hk⟩:=hk
   rcases hk with rfl | hk
   ·exact .same (.inr ⟨_,_,_,rfl⟩)
   ·have:=ZgL hk.1
    subst this
    exact .ownN hk.2
  ·cases h
 ·split at h
  ·simp only [Xf] at h
   subst h
   rename_i hk
   obtain ⟨rfl,hk⟩:=hk
   rcases hk with rfl | hk
   ·exact .own
   ·have:=ZgL hk
    subst this
    exact .ownZ
  ·cases h
 ·cases h
theorem ZeM:∀ (l:List Sh) (cs:List SC) (vs:List VE),Zgk l cs=Xa vs→vs.length=l.length∧cs.length=l.length∧∀ pre post:List V,
  ∀ (i:Nat) (c c':AV),(cs.map (SC.den ρ))[i]? = Xa c→(Jf l (pre++vs.map (VE.den ρ)++post) pre.length)[i]? = Xa c'→YT P c c'
 | [], [], vs, h => by
  simp only [Zgk,Xf] at h
  subst h
  exact ⟨rfl,rfl,fun _ _ i c c' h=>by simp at h⟩
 | [], _ :: _, _, h => by simp [Zgk] at h
 | _ :: _, [], _, h => by simp [Zgk] at h
 | s :: ss, c :: cs, us, h => by
  simp only [Zgk] at h
  split at h
  ·rename_i v vs hv hvs
   simp only [Xf] at h
   subst h
   obtain ⟨h1,h2,h3⟩:=ZeM ss cs vs hvs
   refine ⟨by simp [h1],by simp [h2],fun pre post i c1 c2 hc1 hc2=>?_⟩
   cases i with
   | zero =>
    simp only [Jf,Xk,XK,Xf] at hc1 hc2
    subst hc1
    subst hc2
    rw [Xw,X6,Vt]
    exact Zfl hv
   | succ i =>
    have:=h3 (pre++[v.den ρ]) post i c1 c2 (by simpa using hc1)
    simp only [Xw,X6,X4,Xr,XN,Up] at this
    simp only [Jf,Xk,Ul,Xw,X6] at hc2
    exact this hc2
  ·cases h
theorem Zqp {s:Sh} {x:BC} {v:VE} (h:ZtA P s x=Xa v):YT P (x.den ρ) (Ky s (v.den ρ)):=by
 unfold ZtA at h
 split at h
 ·exact Zfl h
 ·exact ZcO h
 ·cases h
theorem Vo:∀ (l:List Sh) (cs:List BC) (vs:List VE),ZbB P l cs=Xa vs→vs.length=l.length∧cs.length=l.length∧∀ pre post:List V,
  ∀ (i:Nat) (c c':AV),(cs.map (BC.den ρ))[i]? = Xa c→(Jf l (pre++vs.map (VE.den ρ)++post) pre.length)[i]? = Xa c'→YT P c c'
 | [], [], vs, h => by
  simp only [ZbB,Xf] at h
  subst h
  exact ⟨rfl,rfl,fun _ _ i c c' h=>by simp at h⟩
 | [], _ :: _, _, h => by simp [ZbB] at h
 | _ :: _, [], _, h => by simp [ZbB] at h
 | s :: ss, c :: cs, us, h => by
  simp only [ZbB] at h
  split at h
  ·rename_i v vs hv hvs
   simp only [Xf] at h
   subst h
   obtain ⟨h1,h2,h3⟩:=Vo ss cs vs hvs
   refine ⟨by simp [h1],by simp [h2],fun pre post i c1 c2 hc1 hc2=>?_⟩
   cases i with
   | zero =>
    simp only [Jf,Xk,XK,Xf] at hc1 hc2
    subst hc1
    subst hc2
    rw [Xw,X6,Vt]
    exact Zqp hv
   | succ i =>
    have:=h3 (pre++[v.den ρ]) post i c1 c2 (by simpa using hc1)
    simp only [Xw,X6,X4,Xr,XN,Up] at this
    simp only [Jf,Xk,Ul,Xw,X6] at hc2
    exact this hc2
  ·cases h
end
theorem Zkg {s:Sh} (hs:s.imm=Xb) {n:Nat} {ρ:Nat→V} {v:V} (h:ρ n=v):(Jq s n).den ρ=Ky s v:=by
 subst h
 cases s<;>simp [Sh.imm] at hs<;>rfl
theorem Zc6:∀ (l:List Sh) (n m:Nat) (ρ:Nat→V) (us:List V),l.all Sh.imm=Xb→(∀ j,j < l.length→ρ (n+j)=vAt us (m+j))→(ZF l n).map (SC.den ρ)=Jf l us m
 | [], _, _, _, _, _, _ => rfl
 | s :: ss, n, m, ρ, us, hi, h => by
  rw [UN,Xx] at hi
  rw [ZF,Xk,Jf,Zkg hi.1 (show ρ n=vAt us m from h 0 (by simp)),Zc6 ss (n+1) (m+1) ρ us hi.2 fun j hj=>by
   have:=h (j+1) (by simp;omega)
   rw [show n+1+j=n+(j+1) by omega,show m+1+j=m+(j+1) by omega]
   exact this]
theorem ZoZ {s:Sh} {n:Nat} {ρ:Nat→V} {v:V} (h:ρ n=v):(Zqt s n).den ρ=Ky s v:=by
 subst h
 cases s<;>rfl
theorem Za2:∀ (l:List Sh) (n m:Nat) (ρ:Nat→V) (us:List V),(∀ j,j < l.length→ρ (n+j)=vAt us (m+j))→(Ks l n).map (BC.den ρ)=Jf l us m
 | [], _, _, _, _, _ => rfl
 | s :: ss, n, m, ρ, us, h => by
  rw [Ks,Xk,Jf,ZoZ (show ρ n=vAt us m from h 0 (by simp)),Za2 ss (n+1) (m+1) ρ us fun j hj=>by
   have:=h (j+1) (by simp;omega)
   rw [show n+1+j=n+(j+1) by omega,show m+1+j=m+(j+1) by omega]
   exact this]
def KX (h:HP) (us:List V) (j:Nat):AV:=
 match h with
 | .c s => Ky s (vAt us j)
 | .agg l => .agg (Jf l us j)
 | .box l => .box (Jf l us j)
 | .mref d k => .mref d k
 | .ptr d o => .ptr d o
 | .dead => .dead
 | .gbox l => .gbox (Jf l us j)
 | .clo g ds => .clo g ds
 | .eref d k s o => .eref d k ((vAt us j).int.toNat * s + o)
def HP.fine:HP→Bool
 | .agg l => l.all Sh.imm
 | _ => Xb
theorem Zm5 {h:HP} (hf:h.fine=Xb) {n m:Nat} {ρ:Nat→V} {us:List V} (hρ:∀ j,j < h.n→ρ (n+j)=vAt us (m+j)):(Zne h n).den ρ=KX h us m:=by
 cases h with
 | c s =>
  have h0:=hρ 0 (Nat.zero_lt_one)
  simp only [Ug] at h0
  cases s<;>simp only [Zne,KX,SV.den,Jq,SC.den,IE.den,BE.den,SE.den,LE.den,h0,Ky]
 | agg l => simp only [Zne, KX, SV.den, Zc6 l n m ρ us hf hρ]
 | box l => simp only [Zne, KX, SV.den, Za2 l n m ρ us hρ]
 | gbox l => simp only [Zne, KX, SV.den, Za2 l n m ρ us hρ]
 | clo g ds => rfl
 | mref d k => rfl
 | ptr d o => rfl
 | dead => rfl
 | eref d k s o =>
  have h0:=hρ 0 (Nat.zero_lt_one)
  simp only [Ug] at h0
  simp only [Zne,KX,SV.den,IE.den,h0]
def Ztx (h:HP) (x y:AV):Prop:=(∃ d o,h = .ptr d o∧x = .ptr d o)∨(∃ d k,h = .mref d k∧x = .mref d k)∨(∃ g ds,h = .clo g ds∧x = .clo g ds)∨∃ d k s o q,h = .eref d k s o∧x = .eref d k q∧y = .eref d k q
theorem ZlL {P:Program} {ρ:Nat→V} {h:HP} {x:SV} {vs:List VE} (hv:Zjb P h x=Xa vs):vs.length=h.n∧h.fine=Xb∧∀ pre post:List V,
  Ztx h (x.den ρ) (KX h (pre++vs.map (VE.den ρ)++post) pre.length)∨Y2 P (x.den ρ) (KX h (pre++vs.map (VE.den ρ)++post) pre.length):=by
 unfold Zjb at hv
 split at hv
 ·cases hd:Zp2 _ _ with
  | none => rw [hd] at hv; cases hv
  | some v =>
   rw [hd] at hv
   simp only [Xv,Xf] at hv
   subst hv
   refine ⟨rfl,rfl,fun pre post=>.inr ?_⟩
   simp only [KX,Xk,XL,Xw,X6,X4,Vt]
   exact .comp (.cell (Zfl hd))
 ·cases hd:ZcP P _ _ _ _ with
  | none => rw [hd] at hv; cases hv
  | some v =>
   rw [hd] at hv
   simp only [Xv,Xf] at hv
   subst hv
   refine ⟨rfl,rfl,fun pre post=>.inr ?_⟩
   simp only [KX,Xk,XL,Xw,X6,X4,Vt]
   exact .comp (.cell (ZcO hd))
 ·split at hv
  ·rename_i hi
   obtain ⟨h1,h2,h3⟩:=ZeM (P:=P) (ρ:=ρ) _ _ _ hv
   exact ⟨h1,hi,fun pre post=>.inr (.comp (.agg (by rw [Xi,h2,JE]) (Vq _ _ _ hi) (h3 pre post)))⟩
  ·cases hv
 ·obtain ⟨h1,h2,h3⟩:=Vo (P:=P) (ρ:=ρ) _ _ _ hv
  exact ⟨h1,rfl,fun pre post=>.inr (.box (by rw [Xi,h2,JE]) (h3 pre post))⟩
 ·split at hv
  ·rename_i hh
   simp only [Xf] at hv
   subst hv
   obtain ⟨rfl,rfl⟩:=hh
   exact ⟨rfl,rfl,fun _ _=>.inl (.inr (.inl ⟨_,_,rfl,rfl⟩))⟩
  ·cases hv
 ·split at hv
  ·rename_i hh
   simp only [Xf] at hv
   subst hv
   obtain ⟨rfl,rfl⟩:=hh
   exact ⟨rfl,rfl,fun _ _=>.inl (.inl ⟨_,_,rfl,rfl⟩)⟩
  ·cases hv
 ·simp only [Xf] at hv
  subst hv
  exact ⟨rfl,rfl,fun _ _=>.inr .dead⟩
 ·obtain ⟨h1,h2,h3⟩:=Vo (P:=P) (ρ:=ρ) _ _ _ hv
  exact ⟨h1,rfl,fun pre post=>.inr (.gbox (by rw [Xi,h2,JE]) (h3 pre post))⟩
 ·split at hv
  ·rename_i hh
   simp only [Xf] at hv
   subst hv
   obtain ⟨rfl,rfl⟩:=hh
   exact ⟨rfl,rfl,fun _ _=>.inl (.inr (.inr (.inl ⟨_,_,rfl,rfl⟩)))⟩
  ·cases hv
 ·split at hv
  ·rename_i hh
   simp only [Xf] at hv
   subst hv
   obtain ⟨rfl,rfl,rfl,rfl⟩:=hh
   refine ⟨rfl,rfl,fun pre post=>.inl (.inr (.inr (.inr ⟨_,_,_,_,_,rfl,rfl,?_⟩)))⟩
   simp only [KX,Xk,XL,Xw,X6,X4,Vt]
   rfl
  ·cases hv
 ·cases hv
theorem Vs {P:Program} {g:Nat→SV} {ρ:Nat→V} : ∀ (hs:List (Nat×HP)) (n:Nat) (ves:List VE) (pre:List V),Kf P g hs=Xa ves→pre.length=n→
  (Ja hs n).2=n+ves.length∧(Ja hs n).1.map (·.1)=hs.map (·.1)∧∀ u∈(Ja hs n).1,∃ h,(u.1,h)∈hs∧∃ m,u.2=Zne h m∧m+h.n≤n+ves.length∧h.fine=Xb∧
   ∀ post:List V,Ztx h ((g u.1).den ρ) (KX h (pre++ves.map (VE.den ρ)++post) m)∨Y2 P ((g u.1).den ρ) (KX h (pre++ves.map (VE.den ρ)++post) m)
 | [], n, ves, pre, h, hp => by
  simp only [Kf,Xf] at h
  subst h
  exact ⟨rfl,rfl,by simp [Ja]⟩
 | p :: r, n, ves, pre, h, hp => by
  simp only [Kf] at h
  split at h
  ·rename_i v vs hv hvs
   simp only [Xf] at h
   subst h
   obtain ⟨h1,h2,h3⟩:=ZlL (P:=P) (ρ:=ρ) hv
   obtain ⟨g1,g2,g3⟩:=Vs r (n+p.2.n) vs (pre++v.map (VE.den ρ)) hvs (by simp [hp,h1])
   refine ⟨by simp only [Ja,g1,Xr,h1];omega,by simp only [Ja,Xk,g2],fun u hu=>?_⟩
   simp only [Ja,Xu] at hu
   rcases hu with rfl | hu
   ·refine ⟨p.2,by simp,n,rfl,by simp only [Xr,h1];omega,h2,fun post=>?_⟩
    have:=h3 pre (vs.map (VE.den ρ)++post)
    rw [hp] at this
    simpa [Xw] using this
   ·obtain ⟨h,k1,m,k2,k3,k4,k5⟩:=g3 u hu
    refine ⟨h,by simp [k1],m,k2,by simp only [Xr,h1];omega,k4,fun post=>?_⟩
    have:=k5 post
    simpa [Xw] using this
  ·cases h
theorem Zev:∀ (hs:List (Nat×HP)) (n:Nat),n≤(Ja hs n).2∧∀ u∈(Ja hs n).1,u.2.bd (Ja hs n).2
 | [], n => ⟨XA _, by simp [Ja]⟩
 | p :: r, n => by
  obtain ⟨h1,h2⟩:=Zev r (n+p.2.n)
  refine ⟨by simp only [Ja];omega,fun u hu=>?_⟩
  simp only [Ja,Xu] at hu
  rcases hu with rfl | hu
  ·have hb:(Zne p.2 n).bd (n+p.2.n):=by
    cases hp:p.2 with
    | c s => cases s <;> exact Uu n
    | agg l => exact JA l n
    | box l => exact Ye l n
    | mref d k => trivial
    | ptr d o => trivial
    | dead => trivial
    | gbox l => exact Ye l n
    | clo g ds => trivial
    | eref d k s o => exact Uu n
   exact SV.bd_mono (by simpa [Ja] using h1) _ hb
  ·exact h2 u hu
def ZqE (P:Program) (σ σ':Nat→AV) (d:Nat):Prop:=
 Y2 P (σ d) (σ' d)∨(∃ d' o,σ d = .ptr d' o∧σ' d = .ptr d' o∧(∃ cs,σ' d' = .box cs))∨(∃ d' k,σ d = .mref d' k∧σ' d = .mref d' k∧∃ p,Zr (σ' d') k=Xa p)∨
  (∃ g ds,σ d = .clo g ds∧σ' d = .clo g ds∧∀ d'∈ds,(σ' d').isB=Xb)∨∃ d' k o,σ d = .eref d' k o∧σ' d = .eref d' k o∧∃ p,Zr (σ' d') k=Xa p
theorem Zkc {P:Program} {x:AV} {e:TypeId} {xs:List (List AV)} (h:Y2 P x (.own Xb e xs)):x = .own Xb e xs∨xs = []:=by
 cases h with
 | comp h =>
  cases h with
  | cell h =>
   cases h with
   | same _ => exact .inl rfl
   | ownN _ => exact .inr rfl
   | give _ => exact .inr rfl
theorem Sim.head {c:Ctx} {σ σ':Nat→AV} {tm:Array Value} {w:World} {lim:Nat→Nat} {X:Nat→Nat→Option Nat} (h:Sim c σ tm w lim X) (hw:∀ d,ZqE c.P σ σ' d) (hout:∀ d,c.nt≤d→σ' d = .dead∨(σ' d).isG=Xb)
  (hpin:∀ d v,c.pin d=Xa v→∃ cs,σ' d = .box cs) (hgpin:∀ d b,c.gpin d=Xa b→(σ' d).isG=Xb):∃ X',Sim c σ' tm w lim X':=by
 have hG:∀ d,(σ' d).isG=Xb→(σ d).isG=Xb:=by
  intro d hd
  rcases hw d with hs | ⟨d',o,_,h2,_⟩ | ⟨d',k,_,h2,_⟩ | ⟨g,ds,_,h2,_⟩ | ⟨d',k,o,_,h2,_⟩
  ·exact Zmc hs hd
  all_goals (rw [h2] at hd;cases hd)
 have hfar:∀ d,ngN≤d→σ' d = .dead:=by
  intro d hd
  rcases hout d (XY h.ntN hd) with h1 | h1
  ·exact h1
  ·have:=hG d h1
   rw [h.far d hd] at this
   cases this
 have key:∀ d,∃ r:Nat→Option Nat,(ngN≤d→r=X d)∧(∀ k,r k=X d k∨r k=Xe)∧((σ' d).isB=Xb→r 0=X d 0)∧(∀ k,(∃ p,Zr (σ d) k=Xa p)→(∃ p,Zr (σ' d) k=Xa p)→r k=X d k)∧
   (Y2 c.P (σ d) (σ' d)→∀ X':Nat→Nat→Option Nat,X' d=r→ZZ c.P w lim X' σ' d (σ' d) (tm.getD d undef))∧(∀ e xs,σ d = .own Xb e xs→σ' d = .own Xb e xs→r=X d):=by
  intro d
  have hd:=h.rel d
  by_cases hdf:ngN≤d
  ·exact ⟨X d,fun _=>rfl,fun _=>.inl rfl,fun _=>rfl,fun _ _ _=>rfl,fun _ X' _=>by rw [hfar d hdf];trivial,fun _ _ _ _=>rfl⟩
  by_cases hsame:∃ e xs,σ d = .own Xb e xs∧σ' d = .own Xb e xs
  ·obtain ⟨e,xs,h1,h2⟩:=hsame
   refine ⟨X d,fun _=>rfl,fun _=>.inl rfl,fun _=>rfl,fun _ _ _=>rfl,fun _ X' hX=>?_,fun _ _ _ _=>rfl⟩
   rw [h1] at hd
   rw [h2]
   show ZY c.P w lim Xb e xs _ (X' d 0)
   rw [hX]
   exact hd
  have hsm:∀ {r:Nat→Option Nat} (e:TypeId) (xs:List (List AV)),σ d = .own Xb e xs→σ' d = .own Xb e xs→r=X d:=fun e xs h1 h2=>(hsame ⟨e,xs,h1,h2⟩).elim
  have hno:∀ {y:AV},σ d=y→(∀ k,Zr y k=Xe)→∀ k,(∃ p,Zr (σ d) k=Xa p)→(∃ p,Zr (σ' d) k=Xa p)→(Xe:Option Nat)=X d k:=by
   rintro y he hy k ⟨p,hp⟩ _
   rw [he,hy k] at hp
   cases hp
  rcases hw d with hs | ⟨d',o,h1,h2,_⟩ | ⟨d',k,h1,h2,_⟩ | ⟨g,ds,h1,h2,_⟩ | ⟨d',k,o,h1,h2,_⟩
  ·obtain ⟨r,g1,g2,g4,g3⟩:=ZgH hd hs
   exact ⟨r,fun h=>(hdf h).elim,g1,g2,g4,fun _ X' hX=>g3 X' σ' d hX,hsm⟩
  ·exact ⟨fun _=>Xe,fun h=>(hdf h).elim,fun _=>.inr rfl,fun hb=>by (rw [h2] at hb;cases hb),hno h1 (fun _=>rfl),fun hs=>((Wq hs).1 d' o h2).elim,hsm⟩
  ·exact ⟨fun _=>Xe,fun h=>(hdf h).elim,fun _=>.inr rfl,fun hb=>by (rw [h2] at hb;cases hb),hno h1 (fun _=>rfl),fun hs=>((Wq hs).2.1 d' k h2).elim,hsm⟩
  ·exact ⟨fun _=>Xe,fun h=>(hdf h).elim,fun _=>.inr rfl,fun hb=>by (rw [h2] at hb;cases hb),hno h1 (fun _=>rfl),fun hs=>((Wq hs).2.2.1 g ds h2).elim,hsm⟩
  ·exact ⟨fun _=>Xe,fun h=>(hdf h).elim,fun _=>.inr rfl,fun hb=>by (rw [h2] at hb;cases hb),hno h1 (fun _=>rfl),fun hs=>((Wq hs).2.2.2 d' k o h2).elim,hsm⟩
 obtain ⟨X',hX⟩:=Classical.axiomOfChoice key
 have hle:∀ d k b,X' d k=Xa b→X d k=Xa b:=by
  intro d k b hb
  rcases (hX d).2.1 k with e | e
  ·rw [← e];exact hb
  ·rw [e] at hb;cases hb
 refine ⟨X',⟨fun d=>?_,h.size,hout,fun d hd=>h.ghost d (hG d hd),fun d k d' k' b h1 h2=>h.dist d k d' k' b (hle _ _ _ h1) (hle _ _ _ h2),fun d k b hb=>h.ours d k b (hle _ _ _ hb),h.frm,fun d v hv=>⟨(h.pin d v hv).1,hpin d v hv⟩,fun d e xs hdo=>?_,
  fun d b hb=>⟨((hX d).2.2.1 (Za1 (hgpin d b hb))).trans (h.gpin d b hb).1,hgpin d b hb⟩,h.ntN,hfar,fun d k e xs b m1 m2 m3=>?_,fun b m b' hb=>h.yfr b m b' (hle _ _ _ hb)⟩⟩
 rotate_left
 ·have hs:Y2 c.P (σ d) (.own Xb e xs):=by
   rcases hw d with hs | ⟨_,_,_,h2,_⟩ | ⟨_,_,_,h2,_⟩ | ⟨_,_,_,h2,_⟩ | ⟨_,_,_,_,h2,_⟩
   ·rw [hdo] at hs;exact hs
   all_goals (rw [hdo] at h2;cases h2)
  rcases Zkc hs with h1 | rfl
  ·rw [(hX d).2.2.2.2.2 e xs h1 hdo];exact h.mp d e xs h1
  ·intro _ _ _ _ _ _ _ _ _ _ h3;cases h3
 ·rw [(hX (ngN+b)).1 (XX _ _)]
  refine h.nst d k e xs b ?_ m2 (hle _ _ _ m3)
  rcases hw d with hs | ⟨_,_,_,h2,_⟩ | ⟨_,_,_,h2,_⟩ | ⟨_,_,_,h2,_⟩ | ⟨_,_,_,_,h2,_⟩
  ·exact ZeH hs m1 m2
  all_goals (rw [h2] at m1;cases k<;>cases m1)
 have hd:=h.rel d
 rcases hw d with hs | ⟨d2,o2,h1,h2,cs',h3⟩ | ⟨d2,k2,h1,h2,p2,h3⟩ | ⟨g,ds,h1,h2,h3⟩ | ⟨d2,k2,o2,h1,h2,p2,h3⟩
 ·exact (hX d).2.2.2.2.1 hs X' rfl
 ·rw [h1] at hd
  obtain ⟨b,cs,g1,g2,g3⟩:=hd
  rw [h2]
  exact ⟨b,cs',by rw [(hX d2).2.2.1 (by rw [h3];rfl),g1],h3,g3⟩
 ·rw [h1] at hd
  obtain ⟨e,xs,g1,g2⟩:=hd
  rw [h2]
  refine ⟨e,xs,?_,by rw [(hX d2).2.2.2.1 k2 ⟨_,g1⟩ ⟨_,h3⟩];exact g2⟩
  rcases hw d2 with hs | ⟨d3,o3,q1,q2,_⟩ | ⟨d3,k3,q1,q2,_⟩ | ⟨g,ds,q1,q2,_⟩ | ⟨_,_,_,q1,q2,_⟩
  ·obtain ⟨m1,m2⟩:=Zce hs g1 (e':=p2.1) (xs':=p2.2) h3
   rw [h3,← m1,← m2]
  all_goals (rw [q1] at g1;cases g1)
 ·rw [h1] at hd
  obtain ⟨bs,g1,g2,g3⟩:=hd
  rw [h2]
  refine ⟨bs,g1,g2,fun i d' b hd' hb=>?_⟩
  have hB:=h3 d' (Xj hd')
  exact ⟨((hX d').2.2.1 hB).trans (g3 i d' b hd' hb).1,hB⟩
 ·rw [h1] at hd
  obtain ⟨b,e,xs,g1,g2,g3⟩:=hd
  rw [h2]
  refine ⟨b,e,xs,?_,by rw [(hX d2).2.2.2.1 k2 ⟨_,g1⟩ ⟨_,h3⟩];exact g2,g3⟩
  rcases hw d2 with hs | ⟨d3,o3,q1,q2,_⟩ | ⟨d3,k3,q1,q2,_⟩ | ⟨g,ds,q1,q2,_⟩ | ⟨_,_,_,q1,q2,_⟩
  ·obtain ⟨m1,m2⟩:=Zce hs g1 (e':=p2.1) (xs':=p2.2) h3
   rw [h3,← m1,← m2]
  all_goals (rw [q1] at g1;cases g1)
section
variable {P:Program} {tm:Array Value} {w:World} {o:Oper}
theorem KB {x:Nat} (ho:o.op = .move (.tmp x)):(execOp (Act.eval ⟨tm,[]⟩) o).run P w = .ok (.value (tm.getD x undef)) w:=by
 have he:Act.eval ⟨tm,[]⟩ (.tmp x)=tm.getD x undef:=rfl
 simp [execOp,ho,he]
theorem Zcc {x:Nat} {a:Addr} (ho:o.op = .nilCheck (.tmp x)) (hx:tm.getD x undef = .pointer (Xa a)):(execOp (Act.eval ⟨tm,[]⟩) o).run P w = .ok (.value (.pointer (Xa a))) w:=by
 have he:Act.eval ⟨tm,[]⟩ (.tmp x)=tm.getD x undef:=rfl
 simp [execOp,ho,he,hx]
theorem Zbp {T:TypeId} {x f off b p:Nat} (ho:o.op = .fieldAddr T (.tmp x) f) (hf:JQ P T f=Xa off) (hx:tm.getD x undef = .pointer (Xa ⟨b,p,Xe⟩)) :
  (execOp (Act.eval ⟨tm,[]⟩) o).run P w = .ok (.value (.pointer (Xa ⟨b,p+off,Xe⟩))) w:=by
 have he:Act.eval ⟨tm,[]⟩ (.tmp x)=tm.getD x undef:=rfl
 simp [execOp,ho,he,hx,Vl hf]
theorem ZaY {T:TypeId} {x b p:Nat} {u:Value} (ho:o.op = .load T (.tmp x)) (hT:Z2 P T=Xa Xc) (hx:tm.getD x undef = .pointer (Xa ⟨b,p,Xe⟩)) (hc:w.cell? ⟨b,p,Xe⟩=Xa u) :
  (execOp (Act.eval ⟨tm,[]⟩) o).run P w = .ok (.value u) w:=by
 have he:Act.eval ⟨tm,[]⟩ (.tmp x)=tm.getD x undef:=rfl
 simp [execOp,ho,he,hx,JG hT hc]
theorem Zoj {T:TypeId} {x b p:Nat} {us:List Value} (ho:o.op = .load T (.tmp x)) (hT:Z2 P T=Xa Xb) (hn:us.length=P.cellsOf T) (hx:tm.getD x undef = .pointer (Xa ⟨b,p,Xe⟩)) (hc:∀ (j:Nat) (u:Value),us[j]? = Xa u→w.cell? ⟨b,p+j,Xe⟩=Xa u) :
  (execOp (Act.eval ⟨tm,[]⟩) o).run P w = .ok (.value (.agg us.toArray)) w:=by
 have he:Act.eval ⟨tm,[]⟩ (.tmp x)=tm.getD x undef:=rfl
 simp [execOp,ho,he,hx,J3 hT hn hc]
theorem Zr3 {cl:Call} {T e:TypeId} {x n cap:Nat} {a:Option Addr} (ho:o.op = .call cl) (hcl:cl.callee = .builtin .len) (hargs:cl.args.toList = [.tmp x]) (hts:cl.argTypes.toList = [T]) (hT:P.underlying T=Xa (.slice e)) (hx:tm.getD x undef = .slice a n cap) :
  (execOp (Act.eval ⟨tm,[]⟩) o).run P w = .ok (.value (.int .i64 n)) w:=by
 have he:Act.eval ⟨tm,[]⟩ (.tmp x)=tm.getD x undef:=rfl
 have hargs':cl.args = #[.tmp x]:=by apply XR.1;rw [hargs]
 have hts':cl.argTypes = #[T]:=by apply XR.1;rw [hts]
 simp [execOp,ho,hcl,resolve,hargs',hts',invoke,builtin,Builtin.len_,he,hx,run_underlying hT,goInt]
theorem Zmm {T T':TypeId} {x:Nat} {a:Int} (ho:o.op = .binOp .add T (.tmp x) (.const (.int .i64 1)) T') (hx:tm.getD x undef = .int .i64 a) :
  (execOp (Act.eval ⟨tm,[]⟩) o).run P w = .ok (.value (.int .i64 (iop .add .i64 a 1))) w:=by
 have h1:Act.eval ⟨tm,[]⟩ (.tmp x) = .int .i64 a:=hx
 have h2:Act.eval ⟨tm,[]⟩ (.const (.int .i64 1)) = .int .i64 1:=rfl
 simp [execOp,ho,h1,h2,eqGuard,binOp,Op.intArith,iop]
theorem ZrT {T e:TypeId} {x i b n cap k:Nat} (ho:o.op = .indexAddr T (.tmp x) (.tmp i)) (hT:P.underlying T=Xa (.slice e)) (hs0:P.cellsOf e≠0) (hx:tm.getD x undef = .slice (Xa ⟨b,0,Xe⟩) n cap) (hi:tm.getD i undef = .int .i64 k) (hk:k < n) :
  (execOp (Act.eval ⟨tm,[]⟩) o).run P w = .ok (.value (.pointer (Xa ⟨b,k*P.cellsOf e,Xe⟩))) w:=by
 have h1:Act.eval ⟨tm,[]⟩ (.tmp x) = .slice (Xa ⟨b,0,Xe⟩) n cap:=hx
 have h2:Act.eval ⟨tm,[]⟩ (.tmp i) = .int .i64 k:=hi
 obtain ⟨inf,hinf⟩:=Zy hs0
 have hb:(0:Int)≤(k:Int)∧(k:Int) < (n:Int):=by omega
 simp [execOp,ho,h1,h2,Instr.indexAt,asIntOf,run_underlying hT,hb,hk,Zv hinf,Jk]
theorem ZsK {T e:TypeId} {x i b n cap k:Nat} (ho:o.op = .slice T (.tmp x) Xe (Xa (.tmp i)) Xe) (hT:P.underlying T=Xa (.slice e)) (hs0:P.cellsOf e≠0) (hx:tm.getD x undef = .slice (Xa ⟨b,0,Xe⟩) n cap) (hi:tm.getD i undef = .int .i64 k) (hk:k≤n) (hn:n≤cap) :
  (execOp (Act.eval ⟨tm,[]⟩) o).run P w = .ok (.value (.slice (Xa ⟨b,0,Xe⟩) k cap)) w:=by
 have h1:Act.eval ⟨tm,[]⟩ (.tmp x) = .slice (Xa ⟨b,0,Xe⟩) n cap:=hx
 have h2:Act.eval ⟨tm,[]⟩ (.tmp i) = .int .i64 k:=hi
 obtain ⟨inf,hinf⟩:=Zy hs0
 have b1:k≤cap:=by omega
 by_cases hc:cap=0
 ·subst hc
  have hk0:k=0:=by omega
  subst hk0
  simp [execOp,ho,h1,h2,Instr.sliceAt,Instr.slice,Instr.sliceBounds,Instr.sliceBound,asIntOf,run_underlying hT,Zv hinf]
 ·simp [execOp,ho,h1,h2,Instr.sliceAt,Instr.slice,Instr.sliceBounds,Instr.sliceBound,asIntOf,run_underlying hT,Zv hinf,b1,hc,Jk]
theorem Zsi {T e:TypeId} {x i b n cap k:Nat} (ho:o.op = .slice T (.tmp x) (Xa (.tmp i)) Xe Xe) (hT:P.underlying T=Xa (.slice e)) (hs0:P.cellsOf e≠0) (hx:tm.getD x undef = .slice (Xa ⟨b,0,Xe⟩) n cap) (hi:tm.getD i undef = .int .i64 k) (hk:k≤n) (hn:n≤cap) :
  (execOp (Act.eval ⟨tm,[]⟩) o).run P w = .ok (.value (.slice (Xa (if cap=k then ⟨b,0,Xe⟩ else ⟨b,k*P.cellsOf e,Xe⟩)) (n-k) (cap-k))) w:=by
 have h1:Act.eval ⟨tm,[]⟩ (.tmp x) = .slice (Xa ⟨b,0,Xe⟩) n cap:=hx
 have h2:Act.eval ⟨tm,[]⟩ (.tmp i) = .int .i64 k:=hi
 obtain ⟨inf,hinf⟩:=Zy hs0
 have b1:k≤cap:=by omega
 by_cases hc:cap=k
 ·simp [execOp,ho,h1,h2,Instr.sliceAt,Instr.slice,Instr.sliceBounds,Instr.sliceBound,asIntOf,run_underlying hT,Zv hinf,b1,hk,hn,hc]
 ·simp [execOp,ho,h1,h2,Instr.sliceAt,Instr.slice,Instr.sliceBounds,Instr.sliceBound,asIntOf,run_underlying hT,Zv hinf,b1,hk,hn,hc,Jk]
theorem ZpF {cl:Call} {T:TypeId} {x y:Nat} {v u v':Value} {w':World} (ho:o.op = .call cl) (hcl:cl.callee = .builtin .append) (hargs:cl.args.toList = [.tmp x,.tmp y]) (hts:cl.argTypes.toList = [T,T]) (hx:tm.getD x undef=v) (hy:tm.getD y undef=u)
  (hr:(Builtin.append_ #[T,T] o.type #[v,u]).run P w = .ok v' w'):(execOp (Act.eval ⟨tm,[]⟩) o).run P w = .ok (.value v') w':=by
 have hargs':cl.args = #[.tmp x,.tmp y]:=by apply XR.1;rw [hargs]
 have hts':cl.argTypes = #[T,T]:=by apply XR.1;rw [hts]
 have h1:Act.eval ⟨tm,[]⟩ (.tmp x)=v:=hx
 have h2:Act.eval ⟨tm,[]⟩ (.tmp y)=u:=hy
 simp only [execOp,ho,resolve,hcl,hargs',hts',UB,Xk,XL,Sem.run_bind,Sem.run_pure,Result.andThen_ok,invoke,builtin,h1,h2,hr]
theorem Zjp {T:TypeId} {a x b p:Nat} {u:Value} {arr:Array Value} {t:TypeId} {i:TypeInfo} (ho:o.op = .store T (.tmp a) (.tmp x)) (hi:P.info? T=Xa i) (h1:P.cellsOf T=1) (ha:tm.getD a undef = .pointer (Xa ⟨b,p,Xe⟩)) (hx:tm.getD x undef=u) (hc:u.cells = #[u]) (hu:u.oneCell'=Xb)
  (hg:w.heap[b]? = Xa (.cells arr t (0,0))) (hp:p < arr.size) :
  (execOp (Act.eval ⟨tm,[]⟩) o).run P w = .ok .skip (w.setRow b (arr.toList.set p u).toArray):=by
 have e1:Act.eval ⟨tm,[]⟩ (.tmp a) = .pointer (Xa ⟨b,p,Xe⟩):=ha
 have e2:Act.eval ⟨tm,[]⟩ (.tmp x)=u:=hx
 have hst:=Yr (P:=P) (T:=T) (us:=[u]) (arr:=arr) (off:=p) hi (by rw [hc]) (by simp [h1]) hg (by simp;omega) (by intro v hv;rw [XH.1 hv];exact hu)
 have hset:arr.toList.take p++[u]++arr.toList.drop (p + [u].length)=arr.toList.set p u:=by
  have:=set_take_dropV arr.toList p u (by simpa using hp)
  simpa using this
 rw [hset] at hst
 simp [execOp,ho,e1,e2,hst]
where
 set_take_dropV (cs:List Value) (off:Nat) (x:Value) (h:off < cs.length):cs.take off++[x]++cs.drop (off+1)=cs.set off x:=by
  rw [List.set_eq_take_append_cons_drop,if_pos h]
  simp
end
def Ran (P:Program) (o:Oper) (tm:Array Value) (w:World) (v:Value) (w':World):Prop:=(execOp (Act.eval ⟨tm,[]⟩) o).run P w = .ok (.value v) w'∨(v=undef∧(execOp (Act.eval ⟨tm,[]⟩) o).run P w = .ok .skip w')
theorem Ran.wp {P:Program} {o:Oper} {tm:Array Value} {w w':World} {v:Value} {next:Act→World→Prop} {Q:Exit→Act→World→Prop} (h:Ran P o tm w v w') (hn:next (Act.put ⟨tm,[]⟩ o.dst v) w'):o.wp P ⟨tm,[]⟩ w next Q:=by
 rcases h with h | ⟨rfl,h⟩
 ·exact Zs h hn
 ·exact JU h hn
section
variable {P:Program} {ops:Array Oper} {Q:Exit→Act→World→Prop}
theorem Zpg {rest:List Nat} {i:Nat} {o:Oper} {tm:Array Value} {w w':World} {v:Value} (ho:ops[i]? = Xa o) (hg:o.guard=Xe) (hr:Ran P o tm w v w') (hk:wpOps P ops Q rest (Act.put ⟨tm,[]⟩ o.dst v) w') :
  wpOps P ops Q (i::rest) ⟨tm,[]⟩ w:=by
 rw [wpOps_cons]
 unfold wpOp
 simp only [ho,Region.wanted,hg]
 simp only [if_true]
 exact .inl (hr.wp hk)
theorem Zq9 {i:Nat} {o:Oper} {tm:Array Value} {w w':World} {v:Value} {K:Act→World→Prop} (ho:ops[i]? = Xa o) (hg:o.guard=Xe) (hr:Ran P o tm w v w') (hk:K (Act.put ⟨tm,[]⟩ o.dst v) w') :
  wpOp P ops Q i K ⟨tm,[]⟩ w:=by
 unfold wpOp
 simp only [ho,Region.wanted,hg]
 simp only [if_true]
 exact .inl (hr.wp hk)
def Zhw (ops:Array Oper) (L:Nat→Bool):Prop:=∀ (k:Nat) (o:Oper),ops[k]? = Xa o→L k=Xb→∀ e∈o.after,Region.binds .any e=Xb→L e.on=Xb
theorem Zrs {I:(Nat→Bool)→Array Value→World→Prop} (hlow:∀ (i:Nat) (o:Oper),ops[i]? = Xa o→∀ e∈o.after,Region.binds .any e=Xb→e.on < i)
  (step:∀ (L:Nat→Bool) (tm:Array Value) (w:World) (i:Nat) (o:Oper),ops[i]? = Xa o→L i=Xc→(∀ e∈o.after,Region.binds .any e=Xb→L e.on=Xb)→Zhw ops L→I L tm w→
   ∀ K:Act→World→Prop,(∀ tm' w',I (fun j=>decide (j=i)||L j) tm' w'→K ⟨tm',[]⟩ w')→wpOp P ops Q i K ⟨tm,[]⟩ w)
  (fin:∀ (L:Nat→Bool) (tm:Array Value) (w:World),(∀ i,i < ops.size→L i=Xb)→I L tm w→Q .normal ⟨tm,[]⟩ w) :
  ∀ (fuel:Nat) (listed:Array Bool) (tm:Array Value) (w:World),listed.size=ops.size→Zhw ops (fun i=>listed.getD i Xc)→((Un ops.size).countP (fun i=>!listed.getD i Xc)≤fuel)→
   I (fun i=>listed.getD i Xc) tm w→wpAny P .any ops Q fuel listed ⟨tm,[]⟩ w:=by
 have hdone:∀ (listed:Array Bool),listed.size=ops.size→Region.ready .any ops listed = []→∀ j,j < ops.size→listed.getD j Xc=Xb:=by
  intro listed hsz hr j
  induction j using Nat.strongRecOn with
  | _ j ih =>
   intro hj
   cases hl:listed.getD j Xc with
   | true => rfl
   | false =>
    have:j∈Region.ready .any ops listed:=by
     rw [mem_ready]
     refine ⟨?_,ops[j],X8 hj,fun e he hb=>?_⟩
     ·simp only [Uc,hsz,hj,dite_true] at hl ⊢
      exact hl
     ·have hlt:=hlow j _ (X8 hj) e he hb
      exact ih e.on hlt (by omega)
    rw [hr] at this
    cases this
 intro fuel
 induction fuel with
 | zero =>
  intro listed tm w hsz hcl hcnt hs
  have hall:∀ j,j < ops.size→listed.getD j Xc=Xb:=by
   intro j hj
   have h0:(Un ops.size).countP (fun i=>!listed.getD i Xc)=0:=by omega
   have:=(List.countP_eq_zero.1 h0) j (by simpa using hj)
   simpa using this
  have hr:Region.ready .any ops listed = []:=by
   refine List.eq_nil_iff_forall_not_mem.2 fun j hj=>?_
   obtain ⟨h1,o,h2,_⟩:=mem_ready.1 hj
   have hlt:=(Ua.1 h2).1
   have:=hall j hlt
   simp only [Uc,hsz,hlt,dite_true] at h1 this
   rw [h1] at this
   cases this
  exact ⟨hr,fin _ tm w hall hs⟩
 | succ fuel ih =>
  intro listed tm w hsz hcl hcnt hs
  refine ⟨fun hr=>fin _ tm w (hdone listed hsz hr) hs,fun i hi=>?_⟩
  obtain ⟨h1,o,h2,h3⟩:=mem_ready.1 hi
  have hlt:=(Ua.1 h2).1
  have hun:listed.getD i Xc=Xc:=by
   simp only [Uc,hsz,hlt,dite_true] at h1 ⊢
   exact h1
  have hset:∀ j,(listed.setIfInBounds i Xb).getD j Xc=(decide (j=i)||listed.getD j Xc):=by
   intro j
   by_cases hji:j=i
   ·subst hji
    simp [Uc,hsz,hlt]
   ·rw [getD_set_ne Xc (Ne.symm hji)]
    simp [hji]
  have hsf:(fun j=>(listed.setIfInBounds i Xb).getD j Xc)=fun j=>decide (j=i)||listed.getD j Xc:=funext hset
  refine step _ tm w i o h2 hun h3 hcl hs _ fun tm' w' hI=>ih (listed.setIfInBounds i Xb) tm' w' (by simpa using hsz) ?_ ?_ (by rw [hsf];exact hI)
  ·intro k o' hk hl e he hb
   dsimp only at hl ⊢
   rw [hset] at hl ⊢
   rw [US] at hl ⊢
   rcases hl with hl | hl
   ·simp only [decide_eq_true_eq] at hl
    subst hl
    rw [h2] at hk
    cases hk
    exact .inr (h3 e he hb)
   ·exact .inr (hcl k o' hk hl e he hb)
  ·have hlt2:(Un ops.size).countP (fun j=>!(listed.setIfInBounds i Xb).getD j Xc) < (Un ops.size).countP (fun j=>!listed.getD j Xc):=by
    have hle:∀ (l:List Nat),l.countP (fun j=>!(listed.setIfInBounds i Xb).getD j Xc)≤l.countP (fun j=>!listed.getD j Xc):=by
     intro l
     refine List.countP_mono_left fun j _ hj=>?_
     rw [hset] at hj
     cases hx:listed.getD j Xc with
     | false => rfl
     | true => rw [hx] at hj; simp at hj
    have key:∀ (l:List Nat),i∈l→l.countP (fun j=>!(listed.setIfInBounds i Xb).getD j Xc) < l.countP (fun j=>!listed.getD j Xc):=by
     intro l
     induction l with
     | nil => intro h; cases h
     | cons x l ihl =>
      intro h
      rw [UZ,UZ]
      by_cases hx:x=i
      ·subst hx
       have h1:(listed.setIfInBounds x Xb).getD x Xc=Xb:=by rw [hset];simp
       have:=hle l
       rw [h1,hun]
       simp only [Bool.not_true,Bool.not_false,U5,if_false,if_true]
       omega
      ·have:=ihl (by rcases Xu.1 h with h | h;exact (hx h.symm).elim;exact h)
       rw [hset x]
       simp only [hx,decide_false,Bool.false_or]
       omega
    exact key _ (by simpa using hlt)
   omega
structure Zue (nt:Nat) (tm0:Array Value) (D:Nat→Option Nat) (v:Nat→Value) (m l:Nat) (w0 w1 w2:World) (L:Nat→Bool) (tm:Array Value) (w:World):Prop where
 size:tm.size=nt
 old:∀ d,(∀ i,D i≠Xa d)→tm.getD d undef=tm0.getD d undef
 new:∀ i d,L i=Xb→D i=Xa d→tm.getD d undef=v i
 wrl:w=if L l=Xb then w2 else if L m=Xb then w1 else w0
theorem Zls {nt:Nat} {tm0:Array Value} {D:Nat→Option Nat} {v:Nat→Value} {m l:Nat} {w0 w1 w2:World} {id:Nat} {w:World} (hm:P.follows .mixedOrders=Xb) (hw:w.drew=w0)
  (hlow:∀ (i:Nat) (o:Oper),ops[i]? = Xa o→∀ e∈o.after,Region.binds .any e=Xb→e.on < i) (hgd:∀ (i:Nat) (o:Oper),ops[i]? = Xa o→o.guard=Xe∧o.dst=D i)
  (hD:∀ i j d,D i=Xa d→D j=Xa d→i=j) (hDn:∀ i d,D i=Xa d→d < nt) (hsz:tm0.size=nt)
  (hex:∀ (i:Nat) (o:Oper),ops[i]? = Xa o→∀ (L:Nat→Bool) (tm:Array Value) (w:World),L i=Xc→(∀ e∈o.after,Region.binds .any e=Xb→L e.on=Xb)→Zhw ops L→Zue nt tm0 D v m l w0 w1 w2 L tm w→
   Ran P o tm w (v i) (if i=l then w2 else if i=m then w1 else w)∧(i=m→L l=Xc))
  (hfin:∀ tm,tm.size=nt→(∀ d,(∀ i,D i≠Xa d)→tm.getD d undef=tm0.getD d undef)→(∀ i d,i < ops.size→D i=Xa d→tm.getD d undef=v i)→Q .normal ⟨tm,[]⟩ (if l < ops.size then w2 else if m < ops.size then w1 else w0)) :
  (Code.region id ops Xb).wp P Q ⟨tm0,[]⟩ w:=by
 refine wp_region_any hm ?_
 have hdr:({ w with drawn:=w.drawn+1 } : World)=w0:=hw
 rw [hdr]
 refine Zrs (I:=fun L tm w=>(∀ i,ops.size≤i→L i=Xc)∧Zue nt tm0 D v m l w0 w1 w2 L tm w) hlow (fun L tm w i o ho hL hdep hcl hI K hK=>?_) (fun L tm w hall hI=>?_) ops.size _ tm0 w0 (by simp) (fun k o hk hl=>?_) (by simpa using List.countP_le_length (p:=fun i=>!(Array.replicate ops.size Xc).getD i Xc) (l:=Un ops.size)) ⟨fun i hi=>?_,?_⟩
 ·obtain ⟨hI0,hI⟩:=hI
  obtain ⟨hg,hdst⟩:=hgd i o ho
  obtain ⟨hr,hml⟩:=hex i o ho L tm w hL hdep hcl hI
  refine Zq9 ho hg hr ?_
  have hio:i < ops.size:=(Ua.1 ho).1
  rw [hdst]
  cases hDi:D i with
  | none =>
   refine hK tm _ ⟨fun j hj=>?_,hI.size,hI.old,fun j d hj hd=>?_,?_⟩
   ·have:j≠i:=by omega
    simp [this,hI0 j hj]
   ·rw [US,decide_eq_true_eq] at hj
    rcases hj with rfl | hj
    ·rw [hDi] at hd;cases hd
    ·exact hI.new j d hj hd
   ·rw [hI.wrl]
    by_cases h1:i=l
    ·subst h1;simp
    ·by_cases h2:i=m
     ·subst h2
      have:=hml rfl
      simp [h1,this,Ne.symm h1]
     ·simp [h1,h2,Ne.symm h1,Ne.symm h2]
  | some d0 =>
   have hd0:=hDn i d0 hDi
   show K ⟨tm.setIfInBounds d0 (v i),[]⟩ _
   refine hK _ _ ⟨fun j hj=>?_,by simp [hI.size],fun d hd=>?_,fun j d hj hd=>?_,?_⟩
   ·have:j≠i:=by omega
    simp [this,hI0 j hj]
   ·rw [ZL tm d0 d _ (fun h=>hd i (by rw [h];exact hDi))]
    exact hI.old d hd
   ·rw [US,decide_eq_true_eq] at hj
    by_cases hji:j=i
    ·subst hji
     rw [hDi] at hd
     cases hd
     exact JF tm d0 _ (by rw [hI.size];exact hd0)
    ·rw [ZL tm d0 d _ (fun h=>hji (hD j i d hd (by rw [h];exact hDi)))]
     exact hI.new j d (hj.resolve_left hji) hd
   ·rw [hI.wrl]
    by_cases h1:i=l
    ·subst h1;simp
    ·by_cases h2:i=m
     ·subst h2
      have:=hml rfl
      simp [h1,this,Ne.symm h1]
     ·simp [h1,h2,Ne.symm h1,Ne.symm h2]
 ·obtain ⟨hI0,hI⟩:=hI
  have hl:∀ i,L i=decide (i < ops.size):=fun i=>by
   by_cases hi:i < ops.size
   ·simp [hi,hall i hi]
   ·simp [hi,hI0 i (by omega)]
  rw [hI.wrl,hl l,hl m]
  simp only [decide_eq_true_eq]
  exact hfin tm hI.size hI.old fun i d hi hd=>hI.new i d (hall i hi) hd
 ·simp [Uc] at hl
 ·simp [Uc]
 ·refine ⟨hsz,fun d _=>rfl,fun i d hi=>?_,?_⟩
  ·simp [Uc] at hi
  ·simp [Uc]
end
theorem Sim.tm {c:Ctx} {σ:Nat→AV} {tm tm':Array Value} {w:World} {lim:Nat→Nat} {X:Nat→Nat→Option Nat} (h:Sim c σ tm w lim X) (hs:tm'.size=tm.size) (hd:∀ d,σ d≠.dead→tm'.getD d undef=tm.getD d undef):Sim c σ tm' w lim X where
 rel d:=by
  by_cases h0:σ d = .dead
  ·rw [h0];trivial
  ·rw [hd d h0];exact h.rel d
 size:=by rw [hs,h.size]
 out:=h.out
 ghost:=h.ghost
 dist:=h.dist
 ours:=h.ours
 frm:=h.frm
 pin d v hv:=by
  obtain ⟨h1,cs,h2⟩:=h.pin d v hv
  exact ⟨by rw [hd d (by rw [h2];exact fun h=>by cases h)];exact h1,cs,h2⟩
 mp:=h.mp
 gpin:=h.gpin
 ntN:=h.ntN
 far:=h.far
 nst:=h.nst
 yfr:=h.yfr
theorem KY.dead:KY .dead:=⟨fun _ h=>(by cases h),fun _ _ h=>(by cases h),fun _ h=>(by cases h)⟩
theorem Sim.forget {c:Ctx} {tm:Array Value} {w:World} {lim:Nat→Nat} : ∀ (ds:List Nat) {σ:Nat→AV} {X:Nat→Nat→Option Nat},Sim c σ tm w lim X→(∀ d∈ds,d < c.nt∧KY (σ d))→
  ∃ X',Sim c (JC σ (ds.map fun d=>(d,.dead))) tm w lim X'∧(∀ d,d∉ds→X' d=X d)
 | [], σ, X, h, _ => ⟨X, h, fun _ _ => rfl⟩
 | d :: ds, σ, X, h, hd => by
  obtain ⟨h1,h2⟩:=hd d (by simp)
  have hs:=h.weaken (k:=0) (x:=.dead) h1 h2.1 (h.noRefs h2.none) rfl (fun i q hr=>by rcases hr with hr | ⟨_,hr⟩ <;> cases hr) trivial
  obtain ⟨X',g1,g2⟩:=Sim.forget ds hs fun d' hd'=>by
   refine ⟨(hd d' (by simp [hd'])).1,?_⟩
   by_cases he:d'=d
   ·subst he;rw [ZC];exact KY.dead
   ·rw [Zf _ _ he];exact (hd d' (by simp [hd'])).2
  refine ⟨X',g1,fun d' hd'=>?_⟩
  simp only [Xu,not_or] at hd'
  rw [g2 d' hd'.2,Zj X Jx hd'.1]
theorem Zim {c:Ctx} {σ:Nat→AV} {tm:Array Value} {w:World} {lim:Nat→Nat} {X:Nat→Nat→Option Nat} (h:Sim c σ tm w lim X) {d q i off s k:Nat} {D e:TypeId} {xs ys:List (List AV)} {row:List AV} {v:Value}
  (hd:Zr (σ d) q=Xa (D,xs)) (hdp:Zg c.P D=Xb) (hv:ZZ c.P w lim X σ k (.eref d q (i*c.P.cellsOf (bT D))) v) (hrow:xs[i]? = Xa row) (hz:row[off]? = Xa (.nest s Xb e ys)) :
  ∃ b arr u,X d q=Xa b∧v = .pointer (Xa ⟨b,i*c.P.cellsOf (bT D),Xe⟩)∧w.heap[b]? = Xa (.cells arr (bT D) (0,0))∧lim b=0∧arr[i*c.P.cellsOf (bT D)+off]? = Xa u∧s=c.P.cellsOf e∧Zk c.P e=Xc∧
   Vz c.P w lim Xb e ys u (X (ngN+b) (i*c.P.cellsOf (bT D)+off))∧(∀ x∈xs,x.length=c.P.cellsOf (bT D))∧(∀ x∈xs,∀ z∈x,z.isCell=Xb)∧(∀ (j:Nat) (z:AV) (u:Value),xs.flatten[j]? = Xa z→arr[j]? = Xa u→Rep w lim z u)∧
   xs.flatten[i*c.P.cellsOf (bT D)+off]? = Xa (.nest s Xb e ys)∧xs.length*c.P.cellsOf (bT D)≤arr.size:=by
 obtain ⟨b,arr,cap,g1,g2,g3,g4,g5,g6,g7,g8,g9,g10⟩:=Kx h hd hv (.inr hdp)
 have hflat:=ZfH g8 hrow hz
 have hxl:=Zh xs _ g8
 have hlt:=(Xn.1 hflat).1
 have hcap:xs.length*c.P.cellsOf (bT D)≤cap*c.P.cellsOf (bT D):=XF _ g5
 obtain ⟨u,hu⟩:∃ u,arr[i*c.P.cellsOf (bT D)+off]? = Xa u:=⟨arr[i*c.P.cellsOf (bT D)+off]'(by omega),X8 (by omega)⟩
 obtain ⟨n1,n2,n3⟩:=(h.nst d q D xs b (Z4 hd) hdp g1).2 _ s e ys u hflat (by rw [Zl g3];exact hu)
 exact ⟨b,arr,u,g1,g2,g3,g4,hu,n1,n2,n3,g8,g9,g10,hflat,by omega⟩
section
variable {o:Oper}
theorem J1 {x d:Nat} (h:K6 o=Xa (x,d)):o.op = .move (.tmp x)∧o.dst=Xa d∧o.guard=Xe:=by
 unfold K6 at h
 split at h
 ·rename_i h1 h2 h3;cases h;exact ⟨h1,h2,h3⟩
 ·cases h
theorem VP {x d:Nat} (h:Zcv o=Xa (x,d)):o.op = .nilCheck (.tmp x)∧o.dst=Xa d∧o.guard=Xe:=by
 unfold Zcv at h
 split at h
 ·rename_i h1 h2 h3;cases h;exact ⟨h1,h2,h3⟩
 ·cases h
theorem KN {T:TypeId} {x f d:Nat} (h:ZdV o=Xa (T,x,f,d)):o.op = .fieldAddr T (.tmp x) f∧o.dst=Xa d∧o.guard=Xe:=by
 unfold ZdV at h
 split at h
 ·rename_i h1 h2 h3;cases h;exact ⟨h1,h2,h3⟩
 ·cases h
theorem Kv {T:TypeId} {x d:Nat} (h:WZ o=Xa (T,x,d)):o.op = .load T (.tmp x)∧o.dst=Xa d∧o.guard=Xe:=by
 unfold WZ at h
 split at h
 ·rename_i h1 h2 h3;cases h;exact ⟨h1,h2,h3⟩
 ·cases h
theorem Zo3 {T:TypeId} {x i d:Nat} (h:Zq8 o=Xa (T,x,i,d)):o.op = .indexAddr T (.tmp x) (.tmp i)∧o.dst=Xa d∧o.guard=Xe:=by
 unfold Zq8 at h
 split at h
 ·rename_i h1 h2 h3;cases h;exact ⟨h1,h2,h3⟩
 ·cases h
theorem Zjm {T:TypeId} {a x:Nat} (h:Zo6 o=Xa (T,a,x)):o.op = .store T (.tmp a) (.tmp x)∧o.dst=Xe∧o.guard=Xe:=by
 unfold Zo6 at h
 split at h
 ·rename_i h1 h2 h3;cases h;exact ⟨h1,h2,h3⟩
 ·cases h
theorem ZlR {T:TypeId} {x i d:Nat} (h:Zs9 o=Xa (T,x,i,d)):o.op = .slice T (.tmp x) Xe (Xa (.tmp i)) Xe∧o.dst=Xa d∧o.guard=Xe:=by
 unfold Zs9 at h
 split at h
 ·rename_i h1 h2 h3;cases h;exact ⟨h1,h2,h3⟩
 ·cases h
theorem ZlT {T:TypeId} {x i d:Nat} (h:Ztl o=Xa (T,x,i,d)):o.op = .slice T (.tmp x) (Xa (.tmp i)) Xe Xe∧o.dst=Xa d∧o.guard=Xe:=by
 unfold Ztl at h
 split at h
 ·rename_i h1 h2 h3;cases h;exact ⟨h1,h2,h3⟩
 ·cases h
theorem Zg0 {x d:Nat} (h:ZjM o=Xa (x,d)):(∃ T T',o.op = .binOp .add T (.tmp x) (.const (.int .i64 1)) T')∧o.dst=Xa d∧o.guard=Xe:=by
 unfold ZjM at h
 split at h
 ·rename_i h1 h2 h3;cases h;exact ⟨⟨_,_,h1⟩,h2,h3⟩
 ·cases h
theorem Znn {T:TypeId} {x d:Nat} (h:ZkU o=Xa (T,x,d)):(∃ c,o.op = .call c∧c.callee = .builtin .len∧c.args.toList = [.tmp x]∧c.argTypes.toList = [T])∧o.dst=Xa d∧o.guard=Xe:=by
 unfold ZkU at h
 split at h
 ·rename_i c d' h1 h2 h3
  split at h
  ·rename_i k1 k2 k3;cases h;exact ⟨⟨c,h1,k1,k2,k3⟩,h2,h3⟩
  ·cases h
 ·cases h
theorem Ziy {T:TypeId} {x y d:Nat} (h:Zpx o=Xa (T,x,y,d)):(∃ c,o.op = .call c∧c.callee = .builtin .append∧c.args.toList = [.tmp x,.tmp y]∧c.argTypes.toList = [T,T])∧o.dst=Xa d∧o.guard=Xe:=by
 unfold Zpx at h
 split at h
 ·rename_i c d' h1 h2 h3
  split at h
  ·rename_i k1 k2 k3
   split at h
   ·rename_i he;cases h;subst he;exact ⟨⟨c,h1,k1,k2,k3⟩,h2,h3⟩
   ·cases h
  ·cases h
 ·cases h
theorem Zx {js:List Nat} (h:Yg o js=Xb) {L:Nat→Bool} (hL:∀ e∈o.after,Region.binds .any e=Xb→L e.on=Xb):∀ j∈js,L j=Xb:=by
 intro j hj
 simp only [Yg,XC] at h
 have:=h j hj
 rw [Array.any_eq_true] at this
 obtain ⟨m,hm,hb⟩:=this
 simp only [Xx,decide_eq_true_eq] at hb
 rw [← hb.1]
 exact hL _ (Array.getElem_mem hm) hb.2
end
theorem ZmQ {ops:Array Oper} (h:Zti ops=Xb):∀ (i:Nat) (o:Oper),ops[i]? = Xa o→∀ e∈o.after,Region.binds .any e=Xb→e.on < i:=by
 intro i o hio e he hb
 simp only [Zti,XC] at h
 have:=h (o,i) (by rw [TY];simpa using hio)
 rw [Array.all_eq_true_iff_forall_mem] at this
 have:=this e he
 simpa [hb] using this
theorem Zpw {P:Program} {w:World} {lim:Nat→Nat} {x:Bool} {e:TypeId} {xs:List (List AV)} {v:Value} {ob:Option Nat} (h:Vz P w lim x e xs v ob):∃ a cap,v = .slice a xs.length cap:=by
 rcases h with ⟨us,hr,_⟩ | ⟨rfl,_,a,rfl⟩
 ·rcases hr.2 with ⟨hv,hn⟩ | ⟨g,cap,cur,hv,_⟩
  ·exact ⟨Xe,0,by rw [hv,hn]⟩
  ·exact ⟨_,_,hv⟩
 ·exact ⟨_,_,rfl⟩
theorem Zbh {P:Program} {w:World} {lim:Nat→Nat} {e:TypeId} {xs:List (List AV)} {v:Value} {ob:Option Nat} (h:Vz P w lim Xb e xs v ob) (hne:xs≠[]) :
  ∃ b arr cap,ob=Xa b∧v = .slice (Xa ⟨b,0,Xe⟩) xs.length cap∧w.heap[b]? = Xa (.cells arr e (0,0))∧lim b=0∧xs.length≤cap∧cap≤maxLen∧arr.size=cap*P.cellsOf e∧(∀ x∈xs,x.length=P.cellsOf e)∧(∀ x∈xs,∀ c∈x,c.isCell=Xb)∧
   ∀ (j:Nat) (c:AV) (u:Value),xs.flatten[j]? = Xa c→arr[j]? = Xa u→Rep w lim c u:=by
 rcases h with ⟨us,h1,h2,h3,h4,h5,h6⟩ | ⟨h,_⟩
 ·rcases h1.2 with ⟨_,hn⟩ | ⟨g,cap,cur,hv,hbg,hg,hnc,hcm,hcs,htake⟩
  ·exact (hne (Ub hn)).elim
  ·have hob:ob=Xa g:=by rw [← h2,hv];rfl
   refine ⟨g,cur,cap,hob,hv,hg,by have:=h3 g hob;simpa using this,hnc,hcm,hcs,h4,h5,fun j c u hc hu=>?_⟩
   refine h6 j c u hc ?_
   have hlt:=(Xn.1 hc).1
   rw [Zh xs _ h4] at hlt
   rw [← htake,Xz,if_pos hlt]
   simpa using hu
 ·exact (hne h).elim
section
variable {P:Program} {E:Env}
theorem ZcC {g:Nat→SV} {nt:Nat} {ds:List Nat} (h:ZqI nt g ds=Xb) (ρ:Nat→V):∀ d∈ds,d < nt∧KY ((g d).den ρ):=by
 intro d hd
 simp only [ZqI,XC,Xx,decide_eq_true_eq] at h
 obtain ⟨h1,h2⟩:=h d hd
 exact ⟨h1,ZH (YB (b:=.dead) ρ h2)⟩
theorem ZcL {ds:List Nat} (h:∀ d∈ds,d < E.nt):YE E (VR ds):=by
 unfold YE VR
 rw [XC]
 intro u hu
 obtain ⟨d,hd,rfl⟩:=Xm.1 hu
 simpa using JN (h d hd)
theorem Zdq (ρ:Nat→V) (ds:List Nat):(VR ds).map (fun u=>(u.1,u.2.den ρ))=ds.map fun d=>(d,AV.dead):=by
 unfold VR
 rw [Uf]
 rfl
theorem Yo (σ:Nat→AV):∀ (ds:List Nat) (d:Nat),JC σ (ds.map fun d=>(d,AV.dead)) d=if d∈ds then .dead else σ d:=fun ds d=>by
 have:=Ku (ds.map fun d=>(d,AV.dead)) σ d (fun u hu=>by obtain ⟨d',_,rfl⟩:=Xm.1 hu;rfl)
 rw [this]
 have hm:d∈(ds.map fun d=>(d,AV.dead)).map (·.1)↔d∈ds:=by simp
 by_cases h:d∈ds
 ·rw [if_pos (hm.2 h),if_pos h]
 ·rw [if_neg (fun h'=>h (hm.1 h')),if_neg h]
theorem ZgM (hnt:E.top≤1024) {c:Ctx} (hcn:c.nt=E.nt) {s:Tr} {n:Nat} {ρ:Nat→V} {tm tm':Array Value} {w:World} {lim:Nat→Nat} {X:Nat→Nat→Option Nat} {ds:List Nat} (hs:YK E s n) (h:Sim c (ZO E s ρ) tm w lim X) (hf:ZqI E.nt (gE E s) ds=Xb)
  (hsz:tm'.size=tm.size) (ht:∀ d,d∉ds→tm'.getD d undef=tm.getD d undef) :
  YK E (Z8 (VR ds) s) n∧ZO E (Z8 (VR ds) s) ρ=JC (ZO E s ρ) (ds.map fun d=>(d,.dead))∧∃ X',Sim c (ZO E (Z8 (VR ds) s) ρ) tm' w lim X'∧∀ d,d∉ds→X' d=X d:=by
 have hfr:=ZcC hf ρ
 have hlow:=ZcL (E:=E) fun d hd=>(hfr d hd).1
 have hσ:ZO E (Z8 (VR ds) s) ρ=JC (ZO E s ρ) (ds.map fun d=>(d,.dead)):=by rw [Jn hnt ρ _ _ hlow,Zdq]
 refine ⟨Jb hnt _ _ hlow hs fun u hu=>?_,hσ,?_⟩
 ·unfold VR at hu
  obtain ⟨d,_,rfl⟩:=Xm.1 hu
  trivial
 ·obtain ⟨X',h1,h2⟩:=h.forget ds fun d hd=>⟨by rw [hcn];exact (hfr d hd).1,(hfr d hd).2⟩
  refine ⟨X',?_,h2⟩
  rw [hσ]
  refine h1.tm hsz fun d hd=>ht d fun hm=>hd ?_
  rw [Yo,if_pos hm]
theorem Zty (hnt:E.top≤1024) {c:Ctx} (hcn:c.nt=E.nt) {s:Tr} {n:Nat} {ρ:Nat→V} {tm:Array Value} {w:World} {lim:Nat→Nat} {X:Nat→Nat→Option Nat} {d:Nat} {x:SV} (hs:YK E s n) (h:Sim c (ZO E s ρ) tm w lim X) (hd:d < E.nt) (h0:ZO E s ρ d = .dead) (hx:x.bd n)
  (hp:(x.den ρ).plain=Xb) (hnr:∀ i q,¬ Jl (x.den ρ) i q) (hr:ZZ c.P w lim X (ZO E s ρ) 0 (x.den ρ) (tm.getD d undef)) :
  YK E (s.set depth d x) n∧ZO E (s.set depth d x) ρ=upd (ZO E s ρ) d (x.den ρ)∧Sim c (ZO E (s.set depth d x) ρ) tm w lim (Ke X d Jx):=by
 have hσ:=YF (E:=E) hnt (JN hd) s x ρ
 refine ⟨Yb hnt (JN hd) hs hx,hσ,?_⟩
 rw [hσ]
 exact h.weaken (k:=0) (by rw [hcn];exact hd) (fun cs he=>by rw [h0] at he;cases he) (h.noRefs fun k=>by rw [h0];rfl) hp hnr hr
theorem Zc8 {g:Nat→SV} {p:Nat} {TS:TypeId} {f:Nat} {T:TypeId} {d q:Nat} {D:TypeId} {l:LE} {i:IE} {off:Nat} {e:TypeId} (h:ZgA P g p TS f T=Xa (d,q,D,l,i,off,e)) :
  g p = .eref d q i (P.cellsOf (bT D)) 0∧Jd (g d) q=Xa (D,l)∧JQ P TS f=Xa off∧P.underlying T=Xa (.slice e)∧Zg P D=Xb∧(g d).isG=Xc:=by
 unfold ZgA at h
 split at h
 ·rename_i d' q' i' s hp
  split at h
  ·rename_i D' l' off' e' h1 h2 h3
   split at h
   ·rename_i hh
    simp only [Xf,Xo] at h
    obtain ⟨rfl,rfl,rfl,rfl,rfl,rfl,rfl⟩:=h
    exact ⟨by rw [hp,hh.2.1],h1,h2,h3,hh.1,hh.2.2⟩
   ·cases h
  ·cases h
 ·cases h
theorem YU {T e:TypeId} (h:P.underlying T=Xa (.slice e)):Z2 P T=Xa Xc:=by unfold Z2;rw [h]
end
def ZaX (tm:Array Value) (F:List (Nat×Value)) (j:Nat):Array Value:=(F.take j).foldl (fun tm p=>tm.setIfInBounds p.1 p.2) tm
theorem Zd6:∀ (l:List (Nat×Value)) (tm:Array Value),(l.foldl (fun tm p=>tm.setIfInBounds p.1 p.2) tm).size=tm.size
 | [], _ => rfl
 | p :: l, tm => by rw [Tb, Zd6 l]; simp
theorem Zes (tm:Array Value) (F:List (Nat×Value)) (j:Nat):(ZaX tm F j).size=tm.size:=Zd6 _ _
theorem ZjS {tm:Array Value} {F:List (Nat×Value)} {j d:Nat} {v:Value} (h:F[j]? = Xa (d,v)):ZaX tm F (j+1)=(ZaX tm F j).setIfInBounds d v:=by
 unfold ZaX
 rw [List.take_add_one,h]
 simp [List.foldl_append]
theorem Zco:∀ (l:List (Nat×Value)) (tm:Array Value) (x:Nat),x∉l.map (·.1)→(l.foldl (fun tm p=>tm.setIfInBounds p.1 p.2) tm).getD x undef=tm.getD x undef
 | [], _, _, _ => rfl
 | p :: l, tm, x, h => by
  simp only [Xk,Xu,not_or] at h
  rw [Tb,Zco l _ x h.2,ZL tm p.1 x p.2 h.1]
theorem K0 {tm:Array Value} {F:List (Nat×Value)} {j x:Nat} (h:x∉F.map (·.1)):(ZaX tm F j).getD x undef=tm.getD x undef:=
 Zco _ _ _ fun hm=>h (by
  obtain ⟨p,hp,he⟩:=Xm.1 hm
  exact Xm.2 ⟨p,XP hp,he⟩)
theorem ZjG:∀ (l:List (Nat×Value)) (tm:Array Value) (x:Nat) (v:Value),(l.map (·.1)).Nodup→(x,v)∈l→x < tm.size→(l.foldl (fun tm p=>tm.setIfInBounds p.1 p.2) tm).getD x undef=v
 | [], _, _, _, _, h, _ => by cases h
 | p :: l, tm, x, v, hn, h, hx => by
  rw [Xk,X7] at hn
  rw [Tb]
  rcases Xu.1 h with rfl | h
  ·rw [Zco l _ x hn.1]
   exact JF tm x v hx
  ·exact ZjG l _ x v hn.2 h (by simpa using hx)
theorem J8 {tm:Array Value} {F:List (Nat×Value)} {i j x:Nat} {v:Value} (hn:(F.map (·.1)).Nodup) (hi:F[i]? = Xa (x,v)) (hij:i < j) (hx:x < tm.size):(ZaX tm F j).getD x undef=v:=by
 refine ZjG _ _ x v ?_ ?_ hx
 ·rw [Ui];exact hn.sublist (List.take_sublist _ _)
 ·refine Xj (i:=i) ?_
  rw [Xz,if_pos hij]
  exact hi
theorem Zkb {P:Program} {ops:Array Oper} {Q:Exit→Act→World→Prop} {rest:List Nat} {i:Nat} {o:Oper} {tm:Array Value} {F:List (Nat×Value)} {w w':World} {v:Value} {d:Nat} (ho:ops[i]? = Xa o) (hg:o.dst=Xa d∧o.guard=Xe) (hF:F[i]? = Xa (d,v)) (hr:Ran P o (ZaX tm F i) w v w')
  (hk:wpOps P ops Q rest ⟨ZaX tm F (i+1),[]⟩ w'):wpOps P ops Q (i::rest) ⟨ZaX tm F i,[]⟩ w:=by
 refine Zpg ho hg.2 hr ?_
 rw [hg.1]
 rw [ZjS hF] at hk
 exact hk
section
variable {P:Program} {E:Env} {R:AV→List AV→Prop} {A:Nat→List V→Prop}
theorem ZfR (hps:EnvSound P E) (hnt:E.top≤1024) {ops:Array Oper} {r:Nat×Nat×TypeId×Nat×TypeId×List Nat} (hp:Znk ops=Xa r) {id:Nat} {c:Ctx} (hcP:c.P=P) (hcn:c.nt=E.nt) {s:Tr} {n:Nat} {kn:Tr→Nat→STree} {ρ:Nat→V} {tm:Array Value} {w:World}
  {lim:Nat→Nat} {X:Nat→Nat→Option Nat} {Q:Exit→Act→World→Prop} (hs:YK E s n) (h:(Zno P E ops r s n kn).wp P R A ρ) (hsim:Sim c (ZO E s ρ) tm w lim X)
  (hk:∀ s' n' ρ',YK E s' n'→(kn s' n').wp P R A ρ'→∀ tm' w' lim' X',Sim c (ZO E s' ρ') tm' w' lim' X'→Q .normal ⟨tm',[]⟩ w'):(Code.region id ops Xc).wp P Q ⟨tm,[]⟩ w:=by
 unfold Znk at hp
 split at hp
 case h_2=>cases hp
 rename_i o0 o1 o2 o3 o4 o5 rest hops
 split at hp
 case h_2=>cases hp
 rename_i a d0 p d1 x2 d2 TS x3 f d3 T x4 d4 T5 x5 d5 e0 e1 e2 e3 e4 e5
 split at hp
 case isFalse=>cases hp
 rename_i hh
 obtain ⟨⟨rfl,rfl,rfl,rfl,rfl⟩,hnd⟩:=hh
 cases hp
 have hnd:=Y3 _ hnd
 obtain ⟨q0,g0⟩:=J1 e0
 obtain ⟨q1,g1⟩:=J1 e1
 obtain ⟨q2,g2⟩:=VP e2
 obtain ⟨q3,g3⟩:=KN e3
 obtain ⟨q4,g4⟩:=Kv e4
 obtain ⟨⟨cl,q5,q6,q7,q8⟩,g5⟩:=Znn e5
 simp only [Zno] at h
 split at h
 case h_2=>exact h.elim
 rename_i d q D l i off e k d0' d1' d2' d3' d4' d5' hno hga hds
 simp only [List.cons.injEq,and_true] at hds
 obtain ⟨rfl,rfl,rfl,rfl,rfl,rfl⟩:=hds
 split at h
 case isFalse=>exact h.elim
 rename_i hfr
 obtain ⟨r1,r2,h⟩:=h
 obtain ⟨n1,n2,n3,n4,n5,n6⟩:=Zc8 hno
 obtain ⟨row,ys,hrow,hz,hget⟩:=Zgz (show qop (.nst off (P.cellsOf e) e) (l.den ρ) (i.den ρ)=Xb from r2)
 have hrelp:=hsim.rel p
 rw [show ZO E s ρ p = .eref d q ((i.den ρ).toNat*c.P.cellsOf (bT D)) from by show (gE E s p).den ρ=_;rw [n1,hcP];rfl] at hrelp
 obtain ⟨b,arr,u,b1,b2,b3,b4,b5,_,b7,b8,_⟩:=Zim hsim (show Zr (ZO E s ρ d) q=Xa (D,l.den ρ) from ZQ ρ n2) (by rw [hcP];exact n5) hrelp hrow hz
 obtain ⟨ua,ucap,rfl⟩:=Zpw b8
 have hka:tm.getD a undef = .int .i64 (k.den ρ):=by
  have:=hsim.rel a
  rw [show ZO E s ρ a = .val (.int .i64 (k.den ρ)) from by show (gE E s a).den ρ=_;rw [hga];rfl] at this
  exact YV (show Rep w lim _ _ from this)
 obtain ⟨F,hF⟩:∃ F:List (Nat×Value),F = [(d0,.int .i64 (k.den ρ)),(x2,.pointer (Xa ⟨b,(i.den ρ).toNat*c.P.cellsOf (bT D),Xe⟩)),(x3,.pointer (Xa ⟨b,(i.den ρ).toNat*c.P.cellsOf (bT D),Xe⟩)),
  (x4,.pointer (Xa ⟨b,(i.den ρ).toNat*c.P.cellsOf (bT D)+off,Xe⟩)),(x5,.slice ua ys.length ucap),(d5,.int .i64 (ys.length:Int))]:=⟨_,rfl⟩
 have hFm:F.map (·.1) = [d0,x2,x3,x4,x5,d5]:=by rw [hF];rfl
 have hFn:(F.map (·.1)).Nodup:=by rw [hFm];exact hnd.sublist (by simp)
 have hao:a∉F.map (·.1):=by
  rw [hFm]
  rw [X7] at hnd
  exact fun hm=>hnd.1 (UC _ hm)
 have hpo:p∉F.map (·.1):=by
  rw [hFm]
  rw [X7,X7] at hnd
  exact hnd.2.1
 have hsz:tm.size=E.nt:=by rw [hsim.size,hcn]
 have hfr':=ZcC hfr ρ
 have hlt:∀ x∈[d0,x2,x3,x4,x5,d5],x < tm.size:=fun x hx=>by rw [hsz];exact (hfr' x hx).1
 have hsize:ops.size=rest.length+6:=by rw [← UX,hops];rfl
 have hat:∀ j,ops[j]? = ops.toList[j]?:=fun j=>(UT ..).symm
 refine wp_region ?_
 rw [hsize,List.range_eq_range']
 show wpOps P ops Q (0::1::2::3::4::5::List.range' 6 rest.length) ⟨ZaX tm F 0,[]⟩ w
 refine Zkb (by rw [hat,hops];rfl) g0 (by rw [hF];rfl) (.inl (by rw [KB q0,K0 hao,hka])) ?_
 refine Zkb (by rw [hat,hops];rfl) g1 (by rw [hF];rfl) (.inl (by rw [KB q1,K0 hpo,b2])) ?_
 refine Zkb (by rw [hat,hops];rfl) g2 (by rw [hF];rfl) (.inl (Zcc q2 (J8 (i:=1) hFn (by rw [hF];rfl) (by omega) (hlt _ (by simp))))) ?_
 refine Zkb (by rw [hat,hops];rfl) g3 (by rw [hF];rfl) (.inl (Zbp q3 n3 (J8 (i:=2) hFn (by rw [hF];rfl) (by omega) (hlt _ (by simp))))) ?_
 refine Zkb (by rw [hat,hops];rfl) g4 (by rw [hF];rfl) (.inl (ZaY q4 (YU n4) (J8 (i:=3) hFn (by rw [hF];rfl) (by omega) (hlt _ (by simp))) (by rw [Zl b3];exact b5))) ?_
 refine Zkb (by rw [hat,hops];rfl) g5 (by rw [hF];rfl) (.inl (Zr3 q5 q6 q7 q8 n4 (J8 (i:=4) hFn (by rw [hF];rfl) (by omega) (hlt _ (by simp))))) ?_
 -- what is known of the slots behind
 obtain ⟨t1,t2,X1,t3,t4⟩:=ZgM hnt hcn (tm':=ZaX tm F 6) hs hsim hfr (Zes ..) fun x hx=>K0 (by rw [hFm];exact hx)
 have hd0:d0 < E.nt:=(hfr' d0 (by simp)).1
 have hd5:d5 < E.nt:=(hfr' d5 (by simp)).1
 have hd05:d5≠d0:=by
  intro he
  have h1:=(hnd.sublist (show List.Sublist [d0,x2,x3,x4,x5,d5] _ by simp))
  rw [X7] at h1
  exact h1.1 (by simp [he])
 have bk:=hs a
 rw [hga] at bk
 have bl:l.bd n:=Jy n2 (hs d)
 have bi:i.bd n:=by have:=hs p;rw [n1] at this;exact this
 obtain ⟨u1,u2,u3⟩:=Zty hnt hcn (d:=d0) (x:=.c (.int .i64 k)) t1 t3 hd0 (by rw [t2,Yo];simp) bk rfl (fun _ _ hr=>by rcases hr with hr | ⟨_,hr⟩ <;> cases hr)
  (by rw [J8 (i:=0) hFn (by rw [hF];rfl) (by omega) (hlt _ (by simp))];exact Rep.val rfl)
 obtain ⟨v1,v2,v3⟩:=Zty hnt hcn (d:=d5) (x:=.c (.int .i64 (.len (.fn (.dget off) l i .nil .nil)))) u1 u3 hd5 (by rw [u2,Zf _ _ hd05,t2,Yo];simp) ⟨bl,bi,trivial,trivial⟩ rfl (fun _ _ hr=>by rcases hr with hr | ⟨_,hr⟩ <;> cases hr)
  (by
   rw [J8 (i:=5) hFn (by rw [hF];rfl) (by omega) (hlt _ (by simp))]
   show Rep w lim (.val (.int .i64 ((Yi (l.den ρ) (i.den ρ).toNat off).length:Int))) _
   rw [hget]
   exact Rep.val rfl)
 obtain ⟨ss,ρ',n',s',k1,k2,k3,k4,k5⟩:=Vh hps hnt (fun _ _ hh=>by cases hh) (ops.toList.drop 6) 6 _ n [] ρ (fun j=>by rw [XI,hat]) (fun d hd=>Wh ρ hd) v1 h
 have hlen:ss.length=rest.length:=by rw [k1,hops];rfl
 rw [← hlen]
 exact Wk hcP hcn ss 6 _ _ w lim _ k4 (fun d hd=>Wh ρ hd) v3 fun tm' w' lim' X' hs'=>hk s' n' ρ' k2 k3 tm' w' lim' X' (by rw [k5];exact hs')
theorem Zhi (hps:EnvSound P E) (hnt:E.top≤1024) {ops:Array Oper} {r:Nat×Nat×TypeId×Nat×TypeId×TypeId×List Nat} (hp:ZjO ops=Xa r) {id:Nat} {c:Ctx} (hcP:c.P=P) (hcn:c.nt=E.nt) {s:Tr} {n:Nat} {kn:Tr→Nat→STree} {ρ:Nat→V} {tm:Array Value} {w:World}
  {lim:Nat→Nat} {X:Nat→Nat→Option Nat} {Q:Exit→Act→World→Prop} (hs:YK E s n) (h:(ZlZ P E ops r s n kn).wp P R A ρ) (hsim:Sim c (ZO E s ρ) tm w lim X)
  (hk:∀ s' n' ρ',YK E s' n'→(kn s' n').wp P R A ρ'→∀ tm' w' lim' X',Sim c (ZO E s' ρ') tm' w' lim' X'→Q .normal ⟨tm',[]⟩ w'):(Code.region id ops Xc).wp P Q ⟨tm,[]⟩ w:=by
 unfold ZjO at hp
 split at hp
 case h_2=>cases hp
 rename_i o0 o1 o2 o3 o4 o5 o6 rest hops
 split at hp
 case h_2=>cases hp
 rename_i p d0 x1 d1 TS x2 f d2 T x3 d3 a d4 T5 x5 y5 d5 T6 x6 d6 e0 e1 e2 e3 e4 e5 e6
 split at hp
 case isFalse=>cases hp
 rename_i hh
 obtain ⟨⟨rfl,rfl,rfl,rfl,rfl,rfl,rfl⟩,hnd⟩:=hh
 cases hp
 have hnd:=Y3 _ hnd
 obtain ⟨q0,g0⟩:=J1 e0
 obtain ⟨q1,g1⟩:=VP e1
 obtain ⟨q2,g2⟩:=KN e2
 obtain ⟨q3,g3⟩:=Kv e3
 obtain ⟨q4,g4⟩:=J1 e4
 obtain ⟨q5,g5⟩:=Zo3 e5
 obtain ⟨q6,g6⟩:=Kv e6
 simp only [ZlZ] at h
 split at h
 case h_2=>exact h.elim
 rename_i d q D l i off e k c0 c1 c2 c3 c4 c5 c6 hno hga hds
 simp only [List.cons.injEq,and_true] at hds
 obtain ⟨rfl,rfl,rfl,rfl,rfl,rfl,rfl⟩:=hds
 split at h
 case h_2=>exact h.elim
 rename_i sh hsh
 split at h
 case isFalse=>exact h.elim
 rename_i hh
 obtain ⟨hfr,hag,hc6,hshl,hs0⟩:=hh
 obtain ⟨r1,r2,vs,k0,kel,h⟩:=h
 obtain ⟨n1,n2,n3,n4,n5,n6⟩:=Zc8 hno
 obtain ⟨row,ys,hrow,hz,hget⟩:=Zgz (show qop (.nst off (P.cellsOf e) e) (l.den ρ) (i.den ρ)=Xb from r2)
 have hrelp:=hsim.rel p
 rw [show ZO E s ρ p = .eref d q ((i.den ρ).toNat*c.P.cellsOf (bT D)) from by show (gE E s p).den ρ=_;rw [n1,hcP];rfl] at hrelp
 obtain ⟨b,arr,u,b1,b2,b3,b4,b5,_,b7,b8,_⟩:=Zim hsim (show Zr (ZO E s ρ d) q=Xa (D,l.den ρ) from ZQ ρ n2) (by rw [hcP];exact n5) hrelp hrow hz
 obtain ⟨kN,hkN⟩:∃ kN:Nat,k.den ρ=(kN:Int):=⟨(k.den ρ).toNat,by omega⟩
 have hka:tm.getD a undef = .int .i64 (kN:Int):=by
  have:=hsim.rel a
  rw [show ZO E s ρ a = .val (.int .i64 (k.den ρ)) from by show (gE E s a).den ρ=_;rw [hga];rfl] at this
  rw [← hkN]
  exact YV (show Rep w lim _ _ from this)
 have hel:ys[kN]? = Xa ((ZF sh n).map (SC.den (bind ρ n vs))):=by
  have:(Yi (l.den ρ) (i.den ρ).toNat off)[(k.den ρ).toNat]? = _:=kel
  rw [hget,hkN] at this
  exact this
 have hkl:=(Xn.1 hel).1
 obtain ⟨bb,arr3,cap3,w1,w2,w3,w4,w5,w6,w7,w8,w9,w10⟩:=Zbh b8 (by intro he;rw [he] at hkl;simp at hkl)
 subst w2
 rw [hcP] at w7 w8
 obtain ⟨us,hus⟩:∃ us:List Value,us=(arr3.toList.drop (kN*P.cellsOf e)).take (P.cellsOf e):=⟨_,rfl⟩
 have hm1:kN*P.cellsOf e+P.cellsOf e≤ys.length*P.cellsOf e:=by rw [← Uj];exact XF _ hkl
 have hm2:ys.length*P.cellsOf e≤cap3*P.cellsOf e:=XF _ w5
 have hul:us.length=P.cellsOf e:=by rw [hus];simp [w7];omega
 have huat:∀ (j:Nat) (u:Value),us[j]? = Xa u→j < P.cellsOf e∧arr3[kN*P.cellsOf e+j]? = Xa u:=fun j u hj=>by
  rw [hus,Xz] at hj
  split at hj
  ·rename_i hlt
   rw [XI] at hj
   exact ⟨hlt,by simpa using hj⟩
  ·cases hj
 obtain ⟨F,hF⟩:∃ F:List (Nat×Value),F = [(x1,.pointer (Xa ⟨b,(i.den ρ).toNat*c.P.cellsOf (bT D),Xe⟩)),(x2,.pointer (Xa ⟨b,(i.den ρ).toNat*c.P.cellsOf (bT D),Xe⟩)),(x3,.pointer (Xa ⟨b,(i.den ρ).toNat*c.P.cellsOf (bT D)+off,Xe⟩)),
  (x5,.slice (Xa ⟨bb,0,Xe⟩) ys.length cap3),(y5,.int .i64 (kN:Int)),(x6,.pointer (Xa ⟨bb,kN*P.cellsOf e,Xe⟩)),(d6,.agg us.toArray)]:=⟨_,rfl⟩
 have hFm:F.map (·.1) = [x1,x2,x3,x5,y5,x6,d6]:=by rw [hF];rfl
 have hFn:(F.map (·.1)).Nodup:=by rw [hFm];exact hnd.sublist (by simp)
 have hao:a∉F.map (·.1):=by
  rw [hFm]
  rw [X7] at hnd
  exact fun hm=>hnd.1 (UC _ hm)
 have hpo:p∉F.map (·.1):=by
  rw [hFm]
  rw [X7,X7] at hnd
  exact hnd.2.1
 have hsz:tm.size=E.nt:=by rw [hsim.size,hcn]
 have hfr':=ZcC hfr ρ
 have hlt:∀ x∈[x1,x2,x3,x5,y5,x6,d6],x < tm.size:=fun x hx=>by rw [hsz];exact (hfr' x hx).1
 have hsize:ops.size=rest.length+7:=by rw [← UX,hops];rfl
 have hat:∀ j,ops[j]? = ops.toList[j]?:=fun j=>(UT ..).symm
 refine wp_region ?_
 rw [hsize,List.range_eq_range']
 show wpOps P ops Q (0::1::2::3::4::5::6::List.range' 7 rest.length) ⟨ZaX tm F 0,[]⟩ w
 refine Zkb (by rw [hat,hops];rfl) g0 (by rw [hF];rfl) (.inl (by rw [KB q0,K0 hpo,b2])) ?_
 refine Zkb (by rw [hat,hops];rfl) g1 (by rw [hF];rfl) (.inl (Zcc q1 (J8 (i:=0) hFn (by rw [hF];rfl) (by omega) (hlt _ (by simp))))) ?_
 refine Zkb (by rw [hat,hops];rfl) g2 (by rw [hF];rfl) (.inl (Zbp q2 n3 (J8 (i:=1) hFn (by rw [hF];rfl) (by omega) (hlt _ (by simp))))) ?_
 refine Zkb (by rw [hat,hops];rfl) g3 (by rw [hF];rfl) (.inl (ZaY q3 (YU n4) (J8 (i:=2) hFn (by rw [hF];rfl) (by omega) (hlt _ (by simp))) (by rw [Zl b3];exact b5))) ?_
 refine Zkb (by rw [hat,hops];rfl) g4 (by rw [hF];rfl) (.inl (by rw [KB q4,K0 hao,hka])) ?_
 refine Zkb (by rw [hat,hops];rfl) g5 (by rw [hF];rfl) (.inl (ZrT q5 n4 (by omega) (J8 (i:=3) hFn (by rw [hF];rfl) (by omega) (hlt _ (by simp))) (J8 (i:=4) hFn (by rw [hF];rfl) (by omega) (hlt _ (by simp))) hkl)) ?_
 refine Zkb (by rw [hat,hops];rfl) g6 (by rw [hF];rfl) (.inl (Zoj q6 hag (by rw [hul,hc6]) (J8 (i:=5) hFn (by rw [hF];rfl) (by omega) (hlt _ (by simp))) (fun j u hj=>by rw [Zl w3];exact (huat j u hj).2))) ?_
 -- what is known of the slots behind
 have hcg:ZO E s (bind ρ n vs)=ZO E s ρ:=ZaU hs (YG ρ n vs)
 have hs2:YK E s (n+sh.length):=Zde hs (XX _ _)
 obtain ⟨t1,t2,X1,t3,t4⟩:=ZgM hnt hcn (ρ:=bind ρ n vs) (tm':=ZaX tm F 7) hs2 (by rw [hcg];exact hsim) hfr (Zes ..) fun x hx=>K0 (by rw [hFm];exact hx)
 have hd6:d6 < E.nt:=(hfr' d6 (by simp)).1
 obtain ⟨v1,v2,v3⟩:=Zty hnt hcn (d:=d6) (x:=.agg (ZF sh n)) t1 t3 hd6 (by rw [t2,Yo];simp) (JA sh n) rfl (fun _ _ hr=>by rcases hr with hr | ⟨_,hr⟩ <;> cases hr)
  (by
   rw [J8 (i:=6) hFn (by rw [hF];rfl) (by omega) (hlt _ (by simp))]
   show Rep w lim (.agg ((ZF sh n).map (SC.den (bind ρ n vs)))) _
   refine Rep.agg (by rw [Xi,KH,hul,hshl]) (fun c hc=>w9 _ (Xj hel) c hc) fun j z u hz hu=>?_
   obtain ⟨hj,hu'⟩:=huat j u hu
   exact w10 _ z u (ZfH w8 hel hz) hu')
 obtain ⟨ss,ρ',n',s',k1,k2,k3,k4,k5⟩:=Vh hps hnt (fun _ _ hh=>by cases hh) (ops.toList.drop 7) 7 _ (n+sh.length) [] (bind ρ n vs) (fun j=>by rw [XI,hat]) (fun d hd=>Wh _ hd) v1 h
 have hlen:ss.length=rest.length:=by rw [k1,hops];rfl
 rw [← hlen]
 exact Wk hcP hcn ss 7 _ _ w lim _ k4 (fun d hd=>Wh _ hd) v3 fun tm' w' lim' X' hs'=>hk s' n' ρ' k2 k3 tm' w' lim' X' (by rw [k5];exact hs')
def ZkP (U:List Value) (s k n:Nat):List Value:=U.take (k*s)++(U.drop ((k+1)*s)).take ((n-(k+1))*s)++U.drop (k*s+(n-(k+1))*s)
theorem Zpo {U:List Value} {s k n cap:Nat} (hU:U.length=cap*s) (hk:k < n) (hn:n≤cap):(ZkP U s k n).length=cap*s:=by
 have h1:(k+1)*s+(n-(k+1))*s=n*s:=by rw [← XT];congr 1;omega
 have h2:k*s+s=(k+1)*s:=(Uj k s).symm
 have h3:n*s≤cap*s:=XF _ hn
 simp only [ZkP,Xr,Xt,XV,hU]
 omega
theorem Zk8 {w0:World} {T ty e:TypeId} {i:TypeInfo} {b n cap k:Nat} {cur:Array Value} (hT:P.underlying T=Xa (.slice e)) (hi:P.info? e=Xa i) (hg:w0.heap[b]? = Xa (.cells cur e (0,0))) (hcs:cur.size=cap*P.cellsOf e) (hk:k < n) (hn:n≤cap)
  (h1:∀ v∈cur.toList.take (n*P.cellsOf e),v.oneCell'=Xb) :
  (Builtin.append_ #[T,T] ty #[.slice (Xa ⟨b,0,Xe⟩) k cap,.slice (Xa (if cap=k+1 then ⟨b,0,Xe⟩ else ⟨b,(k+1)*P.cellsOf e,Xe⟩)) (n-(k+1)) (cap-(k+1))]).run P w0 =
   .ok (.slice (Xa ⟨b,0,Xe⟩) (n-1) cap) (w0.setRow b (ZkP cur.toList (P.cellsOf e) k n).toArray):=by
 obtain ⟨sz,hsz⟩:∃ sz,sz=P.cellsOf e:=⟨_,rfl⟩
 have hiz:i.size=sz:=by rw [hsz];exact (ZI hi).symm
 rw [← hsz] at hcs h1 ⊢
 have hcl:cur.toList.length=cap*sz:=by simpa using hcs
 have m1:(k+1)*sz+(n-(k+1))*sz=n*sz:=by rw [← XT];congr 1;omega
 have m2:k*sz+sz=(k+1)*sz:=(Uj k sz).symm
 have m3:n*sz≤cap*sz:=XF _ hn
 have hl:((cur.toList.drop ((k+1)*sz)).take ((n-(k+1))*sz)).length=(n-(k+1))*sz:=by rw [Xt,XV,hcl];omega
 have:=run_append_room (P:=P) w0 T ty e i hT hi b k cap cur hg (if cap=k+1 then ⟨b,0,Xe⟩ else ⟨b,(k+1)*sz,Xe⟩) (n-(k+1)) (cap-(k+1)) ((cur.toList.drop ((k+1)*sz)).take ((n-(k+1))*sz)) (by rw [hl,hiz]) (fun t u ht=>by
   have hlt:=(Xn.1 ht).1
   rw [hl] at hlt
   have hne:cap≠k+1:=by
    intro h0
    have:n-(k+1)=0:=by omega
    rw [this] at hlt
    simp at hlt
   rw [if_neg hne,Jk,Zl hg]
   rw [Xz,if_pos hlt,XI] at ht
   simpa using ht) (fun v hv=>h1 v (by
   have h0:(n-(k+1))*sz=n*sz-(k+1)*sz:=by omega
   rw [h0,← List.drop_take] at hv
   exact XS hv)) (by omega) (by rw [hl,hiz,hcs];omega)
 rw [hl,hiz,show k+(n-(k+1))=n-1 by omega] at this
 exact this
theorem Zjo {P:Program} {w:World} {lim:Nat→Nat} {e:TypeId} {ys:List (List AV)} {b cap k:Nat} {arr:Array Value} {w':World} {lim':Nat→Nat} (hs:arr.size=cap*P.cellsOf e) (hn:ys.length≤cap) (hcm:cap≤maxLen) (hk:k < ys.length) (hl:∀ x∈ys,x.length=P.cellsOf e) (hc:∀ x∈ys,∀ c∈x,c.isCell=Xb)
  (hr:∀ (j:Nat) (c:AV) (u:Value),ys.flatten[j]? = Xa c→arr[j]? = Xa u→Rep w lim c u) (he:Ext w lim w' lim') (hg:w'.heap[b]? = Xa (.cells (ZkP arr.toList (P.cellsOf e) k ys.length).toArray e (0,0))) (h0:lim' b=0) :
  Vz P w' lim' Xb e (ys.take k++ys.drop (k+1)) (.slice (Xa ⟨b,0,Xe⟩) (ys.length-1) cap) (Xa b):=by
 obtain ⟨sz,hsz⟩:∃ sz,sz=P.cellsOf e:=⟨_,rfl⟩
 rw [← hsz] at hs hl hg
 have hcl:arr.toList.length=cap*sz:=by simpa using hs
 have m1:(k+1)*sz+(ys.length-(k+1))*sz=ys.length*sz:=by rw [← XT];congr 1;omega
 have m2:k*sz+sz=(k+1)*sz:=(Uj k sz).symm
 have m3:ys.length*sz≤cap*sz:=XF _ hn
 have m4:(ys.length-1)*sz=k*sz+(ys.length-(k+1))*sz:=by rw [← XT];congr 1;omega
 have hyl:(ys.take k++ys.drop (k+1)).length=ys.length-1:=by simp;omega
 have hmem:∀ x∈ys.take k++ys.drop (k+1),x∈ys:=fun x hx=>by
  rcases Xs.1 hx with hx | hx
  ·exact XP hx
  ·exact XS hx
 have hdl:=Zpo (s:=sz) hcl hk hn
 have hflat:(ys.take k++ys.drop (k+1)).flatten=ys.flatten.take (k*sz)++ys.flatten.drop ((k+1)*sz):=by rw [List.flatten_append,JV ys k hl,KQ ys (k+1) hl]
 have hfl:=Zh ys _ hl
 refine .inl ⟨(ZkP arr.toList sz k ys.length).take ((ys.length-1)*sz),⟨by rw [Xt,hdl,hyl,← hsz];omega,.inr ⟨b,cap,_,by rw [hyl],XZ _,hg,by rw [hyl];omega,hcm,by rw [Uk,hdl,hsz],by rw [hyl,← hsz]⟩⟩,rfl,fun b' hb'=>?_,fun x hx=>by rw [← hsz];exact hl x (hmem x hx),fun x hx=>hc x (hmem x hx),fun j c u hz hu=>?_⟩
 ·simp only [Xf] at hb'
  subst hb'
  exact h0
 ·refine Rep.mono he ?_
  rw [hflat] at hz
  rw [Xz] at hu
  split at hu
  case isFalse=>cases hu
  rename_i hjl
  unfold ZkP at hu
  have ht1:(ys.flatten.take (k*sz)).length=k*sz:=by rw [Xt,hfl];omega
  have hu1:(arr.toList.take (k*sz)).length=k*sz:=by rw [Xt,hcl];omega
  rw [Xw] at hu
  by_cases hj:j < k*sz
  ·rw [XE (by omega),Xz,if_pos hj] at hz
   rw [XE (by omega),Xz,if_pos hj] at hu
   exact hr j c u hz (by simpa using hu)
  ·rw [XB (by omega),ht1,XI] at hz
   rw [XB (by omega),hu1,XE (by rw [Xt,XV,hcl];omega),Xz,if_pos (by omega),XI] at hu
   exact hr _ c u hz (by simpa using hu)
theorem Zgt {w:World} {lim:Nat→Nat} {ys:List (List AV)} {sz cap:Nat} {arr:Array Value} (hcs:arr.size=cap*sz) (hn:ys.length≤cap) (hl:∀ x∈ys,x.length=sz) (hc:∀ x∈ys,∀ c∈x,c.isCell=Xb) (hr:∀ (j:Nat) (c:AV) (u:Value),ys.flatten[j]? = Xa c→arr[j]? = Xa u→Rep w lim c u) :
  ∀ v∈arr.toList.take (ys.length*sz),v.oneCell'=Xb:=by
 intro v hv
 obtain ⟨j,hj⟩:=XU.1 hv
 rw [Xz] at hj
 split at hj
 case isFalse=>cases hj
 rename_i hlt
 have hfl:=Zh ys _ hl
 have hz:ys.flatten[j]? = Xa (ys.flatten[j]'(by omega)):=Xq (by omega)
 obtain ⟨x,hx,hzx⟩:=List.mem_flatten.1 (Xy (show j < ys.flatten.length by omega))
 exact (hr j _ v hz (by simpa using hj)).oneCell (hc x hx _ hzx)
theorem Zdd:∀ {l:List Nat} {i j d:Nat},l.Nodup→l[i]? = Xa d→l[j]? = Xa d→i=j
 | [], _, _, _, _, h, _ => by simp at h
 | x :: l, i, j, d, hn, h1, h2 => by
  rw [X7] at hn
  cases i with
  | zero =>
   cases j with
   | zero => rfl
   | succ j =>
    simp only [XK,Xf,Ul] at h1 h2
    subst h1
    exact (hn.1 (Xj h2)).elim
  | succ i =>
   cases j with
   | zero =>
    simp only [XK,Xf,Ul] at h1 h2
    subst h2
    exact (hn.1 (Xj h1)).elim
   | succ j =>
    simp only [Ul] at h1 h2
    rw [Zdd hn.2 h1 h2]
theorem Zg3 (hm:P.follows .mixedOrders=Xb) (hnt:E.top≤1024) {ops:Array Oper} {r:Nat×Nat×TypeId×Nat×TypeId×List Nat} (hp:ZlJ ops=Xa r) {id:Nat} {c:Ctx} (hcP:c.P=P) (hcn:c.nt=E.nt) {s:Tr} {n:Nat} {kn:Tr→Nat→STree} {ρ:Nat→V} {tm:Array Value} {w:World}
  {lim:Nat→Nat} {X:Nat→Nat→Option Nat} {Q:Exit→Act→World→Prop} (hs:YK E s n) (h:(ZlH P E r s n kn).wp P R A ρ) (hsim:Sim c (ZO E s ρ) tm w lim X)
  (hk:∀ s' n' ρ',YK E s' n'→(kn s' n').wp P R A ρ'→∀ tm' w' lim' X',Sim c (ZO E s' ρ') tm' w' lim' X'→Q .normal ⟨tm',[]⟩ w'):(Code.region id ops Xb).wp P Q ⟨tm,[]⟩ w:=by
 unfold ZlJ at hp
 split at hp
 case h_2=>cases hp
 rename_i o0 o1 o2 o3 o4 o5 o6 o7 o8 o9 o10 o11 o12 o13 o14 o15 o16 o17 hops
 split at hp
 case h_2=>cases hp
 rename_i p d0 p1 d1 x2 d2 TS x3 f d3 T x4 d4 a d5 T6 x6 y6 d6 p7 d7 x8 d8 e0 e1 e2 e3 e4 e5 e6 e7 e8
 split at hp
 case h_2=>cases hp
 rename_i TS9 x9 f9 d9 T10 x10 d10 a11 d11 x12 d12 T13 x13 y13 d13 T14 x14 y14 d14 x15 d15 TS16 x16 f16 d16 T17 x17 y17 e9 e10 e11 e12 e13 e14 e15 e16 e17
 split at hp
 case isFalse=>cases hp
 rename_i hh
 obtain ⟨⟨⟨h1,h2,h3,h4,h5,h6,h7,h8,h9⟩,h10,h11,h12,h13,h14,h15,h16,h17,h18,h19⟩,⟨h20,h21,h22,h23,h24,h25,h26,h27,h28,h29⟩,hnd,hlow,hedge⟩:=hh
 have h1:=h1.symm;subst h1
 have h2:=h2.symm;subst h2
 have h3:=h3.symm;subst h3
 have h4:=h4.symm;subst h4
 have h5:=h5.symm;subst h5
 have h6:=h6.symm;subst h6
 have h7:=h7.symm;subst h7
 have h8:=h8.symm;subst h8
 have h9:=h9.symm;subst h9
 have h10:=h10.symm;subst h10
 have h11:=h11.symm;subst h11
 have h12:=h12.symm;subst h12
 have h13:=h13.symm;subst h13
 have h14:=h14.symm;subst h14
 have h15:=h15.symm;subst h15
 have h16:=h16.symm;subst h16
 have h17:=h17.symm;subst h17
 have h18:=h18.symm;subst h18
 have h19:=h19.symm;subst h19
 have h20:=h20.symm;subst h20
 have h21:=h21.symm;subst h21
 have h22:=h22.symm;subst h22
 have h23:=h23.symm;subst h23
 have h24:=h24.symm;subst h24
 have h25:=h25.symm;subst h25
 have h26:=h26.symm;subst h26
 have h27:=h27.symm;subst h27
 have h28:=h28.symm;subst h28
 have h29:=h29.symm;subst h29
 cases hp
 simp only [Xx] at hedge
 obtain ⟨⟨⟨⟨⟨⟨⟨⟨⟨⟨⟨⟨E2,E3⟩,E4⟩,E6⟩,E8⟩,E9⟩,E10⟩,E12⟩,E13⟩,E14⟩,E15⟩,E16⟩,E17⟩:=hedge
 have hnd:=Y3 _ hnd
 obtain ⟨q0,g0,u0⟩:=J1 e0
 obtain ⟨q1,g1,u1⟩:=J1 e1
 obtain ⟨q2,g2,u2⟩:=VP e2
 obtain ⟨q3,g3,u3⟩:=KN e3
 obtain ⟨q4,g4,u4⟩:=Kv e4
 obtain ⟨q5,g5,u5⟩:=J1 e5
 obtain ⟨q6,g6,u6⟩:=ZlR e6
 obtain ⟨q7,g7,u7⟩:=J1 e7
 obtain ⟨q8,g8,u8⟩:=VP e8
 obtain ⟨q9,g9,u9⟩:=KN e9
 obtain ⟨q10,g10,u10⟩:=Kv e10
 obtain ⟨q11,g11,u11⟩:=J1 e11
 obtain ⟨⟨I1,I2,q12⟩,g12,u12⟩:=Zg0 e12
 obtain ⟨q13,g13,u13⟩:=ZlT e13
 obtain ⟨⟨cl,q14,qa,qb,qc⟩,g14,u14⟩:=Ziy e14
 obtain ⟨q15,g15,u15⟩:=VP e15
 obtain ⟨q16,g16,u16⟩:=KN e16
 obtain ⟨q17,g17,u17⟩:=Zjm e17
 simp only [ZlH] at h
 split at h
 case h_2=>exact h.elim
 rename_i d q D l i off e k hno hga
 split at h
 case isFalse=>exact h.elim
 rename_i hh
 obtain ⟨hfr,hs0,hT1⟩:=hh
 obtain ⟨r1,r2,r3,r4,h⟩:=h
 have r3:(0:Int)≤k.den ρ:=r3
 obtain ⟨n1,n2,n3,n4,n5,n6⟩:=Zc8 hno
 obtain ⟨row,ys,hrow,hz,hget⟩:=Zgz (show qop (.nst off (P.cellsOf e) e) (l.den ρ) (i.den ρ)=Xb from r2)
 have hown:Zr (ZO E s ρ d) q=Xa (D,l.den ρ):=ZQ ρ n2
 have hdp:Zg c.P D=Xb:=by rw [hcP];exact n5
 have hrelp:=hsim.rel p
 rw [show ZO E s ρ p = .eref d q ((i.den ρ).toNat*c.P.cellsOf (bT D)) from by show (gE E s p).den ρ=_;rw [n1,hcP];rfl] at hrelp
 obtain ⟨b,arr,u,b1,b2,b3,b4,b5,b6,b7,b8,b9,b10,b11,b12,b13⟩:=Zim hsim hown hdp hrelp hrow hz
 obtain ⟨kN,hkN⟩:∃ kN:Nat,k.den ρ=(kN:Int):=⟨(k.den ρ).toNat,by omega⟩
 have hkl:kN < ys.length:=by
  have:k.den ρ < (((Yi (l.den ρ) (i.den ρ).toNat off).length:Nat):Int):=r4
  rw [hget,hkN] at this
  omega
 have hka:tm.getD a undef = .int .i64 (kN:Int):=by
  have:=hsim.rel a
  rw [show ZO E s ρ a = .val (.int .i64 (k.den ρ)) from by show (gE E s a).den ρ=_;rw [hga];rfl] at this
  rw [← hkN]
  exact YV (show Rep w lim _ _ from this)
 obtain ⟨bb,arr3,cap3,w1',w2',w3,w4,w5,w6,w7,w8,w9,w10⟩:=Zbh b8 (by intro he;rw [he] at hkl;simp at hkl)
 subst w2'
 rw [hcP] at w7 w8
 obtain ⟨iN,hiN⟩:∃ iN,iN=(i.den ρ).toNat:=⟨_,rfl⟩
 obtain ⟨J,hJ⟩:∃ J,J=(i.den ρ).toNat*c.P.cellsOf (bT D)+off:=⟨_,rfl⟩
 rw [← hJ] at b5 b8 b12 w1'
 obtain ⟨inf,hinf⟩:=Zy (show P.cellsOf e≠0 by omega)
 obtain ⟨infT,hinfT⟩:=Zy (show P.cellsOf T≠0 by omega)
 have hbb:bb≠b:=fun he=>by
  subst he
  have hd1:=hsim.far d
  have:=(hsim.dist d q _ J bb b1 w1').1
  rw [this] at hown
  rw [hsim.far _ (XX _ _)] at hown
  cases hown
 -- the worlds
 obtain ⟨nv,hnv⟩:∃ nv:Value,nv = .slice (Xa ⟨bb,0,Xe⟩) (ys.length-1) cap3:=⟨_,rfl⟩
 obtain ⟨w1,hw1⟩:∃ w1,w1=w.drew.setRow bb (ZkP arr3.toList (P.cellsOf e) kN ys.length).toArray:=⟨_,rfl⟩
 obtain ⟨w2,hw2⟩:∃ w2,w2=w1.setRow b (arr.toList.set J nv).toArray:=⟨_,rfl⟩
 have hd3:w.drew.heap[bb]? = Xa (.cells arr3 e (0,0)):=w3
 have hdb:w.drew.heap[b]? = Xa (.cells arr (bT D) (0,0)):=b3
 have hw1b:w1.heap[b]? = Xa (.cells arr (bT D) (0,0)):=by rw [hw1,setRow_other w.drew bb b _ (Ne.symm hbb)];exact hdb
 have hw13:w1.heap[bb]? = Xa (.cells (ZkP arr3.toList (P.cellsOf e) kN ys.length).toArray e (0,0)):=by rw [hw1];exact setRow_heap w.drew bb arr3 _ e (0,0) hd3
 have hw2b:w2.heap[b]? = Xa (.cells (arr.toList.set J nv).toArray (bT D) (0,0)):=by rw [hw2];exact setRow_heap w1 b arr _ (bT D) (0,0) hw1b
 have hw23:w2.heap[bb]? = Xa (.cells (ZkP arr3.toList (P.cellsOf e) kN ys.length).toArray e (0,0)):=by rw [hw2,setRow_other w1 b bb _ hbb];exact hw13
 have hJl:J < arr.size:=(Ua.1 b5).1
 have hap:=fun ty=>Zk8 (P:=P) (ty:=ty) n4 hinf hd3 w7 hkl w5 (Zgt w7 w5 w8 w9 w10)
 rw [← hw1,← hnv] at hap
 have hinc:iop .add .i64 (kN:Int) 1=((kN+1:Nat):Int):=by
  show IntKind.i64.wrap _=_
  rw [U6]
  unfold maxLen at w6
  omega
 -- the values
 obtain ⟨DS,hDS⟩:∃ DS:List Nat,DS = [d0,d1,d2,d3,d4,d5,d6,d7,d8,d9,d10,d11,d12,d13,d14,d15,d16]:=⟨_,rfl⟩
 obtain ⟨v,hv⟩:∃ v:Nat→Value,v=fun j=>([.pointer (Xa ⟨b,(i.den ρ).toNat*c.P.cellsOf (bT D),Xe⟩),.pointer (Xa ⟨b,(i.den ρ).toNat*c.P.cellsOf (bT D),Xe⟩),.pointer (Xa ⟨b,(i.den ρ).toNat*c.P.cellsOf (bT D),Xe⟩),.pointer (Xa ⟨b,J,Xe⟩),
  .slice (Xa ⟨bb,0,Xe⟩) ys.length cap3,.int .i64 (kN:Int),.slice (Xa ⟨bb,0,Xe⟩) kN cap3,.pointer (Xa ⟨b,(i.den ρ).toNat*c.P.cellsOf (bT D),Xe⟩),.pointer (Xa ⟨b,(i.den ρ).toNat*c.P.cellsOf (bT D),Xe⟩),.pointer (Xa ⟨b,J,Xe⟩),
  .slice (Xa ⟨bb,0,Xe⟩) ys.length cap3,.int .i64 (kN:Int),.int .i64 ((kN+1:Nat):Int),.slice (Xa (if cap3=kN+1 then ⟨bb,0,Xe⟩ else ⟨bb,(kN+1)*P.cellsOf e,Xe⟩)) (ys.length-(kN+1)) (cap3-(kN+1)),nv,
  .pointer (Xa ⟨b,(i.den ρ).toNat*c.P.cellsOf (bT D),Xe⟩),.pointer (Xa ⟨b,J,Xe⟩),undef] : List Value).getD j undef:=⟨_,rfl⟩
 have hat:∀ j,ops[j]? = ops.toList[j]?:=fun j=>(UT ..).symm
 have hsize:ops.size=18:=by rw [← UX,hops];rfl
 have hsz:tm.size=E.nt:=by rw [hsim.size,hcn]
 have hfr':=ZcC hfr ρ
 rw [← hDS] at hfr hfr'
 have hDn:DS.Nodup:=by rw [hDS];exact hnd.sublist (by simp)
 have hao:∀ j:Nat,DS[j]?≠Xa a:=fun j hj=>by
  have hm:=Xj hj
  rw [X7] at hnd
  rw [hDS] at hm
  exact hnd.1 (UC _ hm)
 have hpo:∀ j:Nat,DS[j]?≠Xa p:=fun j hj=>by
  have hm:=Xj hj
  rw [X7,X7] at hnd
  rw [hDS] at hm
  exact hnd.2.1 hm
 have hD:∀ j:Nat,DS[j]? = ([d0,d1,d2,d3,d4,d5,d6,d7,d8,d9,d10,d11,d12,d13,d14,d15,d16] : List Nat)[j]?:=fun j=>by rw [hDS]
 have hu1:nv.cells = #[nv]∧nv.oneCell'=Xb:=by rw [hnv];exact ⟨rfl,rfl⟩
 refine Zls (nt:=E.nt) (D:=fun j=>DS[j]?) (v:=v) (m:=14) (l:=17) (w0:=w.drew) (w1:=w1) (w2:=w2) hm rfl (ZmQ hlow) (fun j o ho=>?_) (fun j j' x h1 h2=>Zdd hDn h1 h2) (fun j x hx=>(hfr' x (Xj hx)).1) hsz (fun j o ho L tX wX hL hdep hcl hI=>?_) (fun tX hX1 hX2 hX3=>?_)
 ·rw [hat,hops] at ho
  match j,ho with
  | 0, ho => obtain rfl : o0 = o := Xp ho; exact ⟨u0, by rw [hDS]; exact g0⟩
  | 1, ho => obtain rfl : o1 = o := Xp ho; exact ⟨u1, by rw [hDS]; exact g1⟩
  | 2, ho => obtain rfl : o2 = o := Xp ho; exact ⟨u2, by rw [hDS]; exact g2⟩
  | 3, ho => obtain rfl : o3 = o := Xp ho; exact ⟨u3, by rw [hDS]; exact g3⟩
  | 4, ho => obtain rfl : o4 = o := Xp ho; exact ⟨u4, by rw [hDS]; exact g4⟩
  | 5, ho => obtain rfl : o5 = o := Xp ho; exact ⟨u5, by rw [hDS]; exact g5⟩
  | 6, ho => obtain rfl : o6 = o := Xp ho; exact ⟨u6, by rw [hDS]; exact g6⟩
  | 7, ho => obtain rfl : o7 = o := Xp ho; exact ⟨u7, by rw [hDS]; exact g7⟩
  | 8, ho => obtain rfl : o8 = o := Xp ho; exact ⟨u8, by rw [hDS]; exact g8⟩
  | 9, ho => obtain rfl : o9 = o := Xp ho; exact ⟨u9, by rw [hDS]; exact g9⟩
  | 10, ho => obtain rfl : o10 = o := Xp ho; exact ⟨u10, by rw [hDS]; exact g10⟩
  | 11, ho => obtain rfl : o11 = o := Xp ho; exact ⟨u11, by rw [hDS]; exact g11⟩
  | 12, ho => obtain rfl : o12 = o := Xp ho; exact ⟨u12, by rw [hDS]; exact g12⟩
  | 13, ho => obtain rfl : o13 = o := Xp ho; exact ⟨u13, by rw [hDS]; exact g13⟩
  | 14, ho => obtain rfl : o14 = o := Xp ho; exact ⟨u14, by rw [hDS]; exact g14⟩
  | 15, ho => obtain rfl : o15 = o := Xp ho; exact ⟨u15, by rw [hDS]; exact g15⟩
  | 16, ho => obtain rfl : o16 = o := Xp ho; exact ⟨u16, by rw [hDS]; exact g16⟩
  | 17, ho => obtain rfl : o17 = o := Xp ho; exact ⟨u17, by rw [hDS]; exact g17⟩
  | j + 18, ho => cases ho
 ·rw [hat,hops] at ho
  have at':∀ (j:Nat) (o:Oper),ops.toList[j]? = Xa o→L j=Xb→∀ e∈o.after,Region.binds .any e=Xb→L e.on=Xb:=fun j o ho hj=>hcl j o (by rw [hat];exact ho) hj
  have new:∀ (j x:Nat) (y:Value),L j=Xb→DS[j]? = Xa x→v j=y→tX.getD x undef=y:=fun j x y h1 h2 h3=>by rw [hI.new j x h1 h2,h3]
  have l17:L 14=Xc→L 17=Xc:=fun h14=>by
   cases h17:L 17 with
   | false => rfl
   | true =>
    have:=Zx E17 (at' 17 o17 (by rw [hops];rfl) h17) 14 (by simp)
    rw [h14] at this;cases this
  have wfst:L 14=Xc→wX=w.drew:=fun h14=>by rw [hI.wrl,l17 h14,h14];rfl
  match j,ho with
  | 0, ho =>
   obtain rfl:o0=o:=Xp ho
   refine ⟨?_,fun h=>by omega⟩
   rw [hv]
   exact .inl (by rw [KB q0,hI.old p hpo,b2];rfl)
  | 1, ho =>
   obtain rfl:o1=o:=Xp ho
   refine ⟨?_,fun h=>by omega⟩
   rw [hv]
   exact .inl (by rw [KB q1,hI.old p hpo,b2];rfl)
  | 2, ho =>
   obtain rfl:o2=o:=Xp ho
   refine ⟨?_,fun h=>by omega⟩
   rw [hv]
   exact .inl (Zcc q2 (new 1 d1 _ (Zx E2 hdep 1 (by simp)) (by rw [hDS];rfl) (by rw [hv];rfl)))
  | 3, ho =>
   obtain rfl:o3=o:=Xp ho
   refine ⟨?_,fun h=>by omega⟩
   rw [hv]
   exact .inl (by rw [Zbp q3 n3 (new 2 d2 _ (Zx E3 hdep 2 (by simp)) (by rw [hDS];rfl) (by rw [hv];rfl)),← hJ];rfl)
  | 4, ho =>
   obtain rfl:o4=o:=Xp ho
   refine ⟨?_,fun h=>by omega⟩
   rw [hv]
   have h14:L 14=Xc:=by
    cases h14:L 14 with
    | false => rfl
    | true =>
     have z6:=Zx E14 (at' 14 o14 (by rw [hops];rfl) h14) 6 (by simp)
     have z4:=Zx E6 (at' 6 o6 (by rw [hops];rfl) z6) 4 (by simp)
     rw [hL] at z4;cases z4
   exact .inl (ZaY q4 (YU n4) (new 3 d3 _ (Zx E4 hdep 3 (by simp)) (by rw [hDS];rfl) (by rw [hv];rfl)) (by rw [wfst h14,Zl hdb];exact b5))
  | 5, ho =>
   obtain rfl:o5=o:=Xp ho
   refine ⟨?_,fun h=>by omega⟩
   rw [hv]
   exact .inl (by rw [KB q5,hI.old a hao,hka];rfl)
  | 6, ho =>
   obtain rfl:o6=o:=Xp ho
   refine ⟨?_,fun h=>by omega⟩
   rw [hv]
   exact .inl (ZsK q6 n4 (by omega) (new 4 d4 _ (Zx E6 hdep 4 (by simp)) (by rw [hDS];rfl) (by rw [hv];rfl)) (new 5 d5 _ (Zx E6 hdep 5 (by simp)) (by rw [hDS];rfl) (by rw [hv];rfl)) (by omega) w5)
  | 7, ho =>
   obtain rfl:o7=o:=Xp ho
   refine ⟨?_,fun h=>by omega⟩
   rw [hv]
   exact .inl (by rw [KB q7,hI.old p hpo,b2];rfl)
  | 8, ho =>
   obtain rfl:o8=o:=Xp ho
   refine ⟨?_,fun h=>by omega⟩
   rw [hv]
   exact .inl (Zcc q8 (new 7 d7 _ (Zx E8 hdep 7 (by simp)) (by rw [hDS];rfl) (by rw [hv];rfl)))
  | 9, ho =>
   obtain rfl:o9=o:=Xp ho
   refine ⟨?_,fun h=>by omega⟩
   rw [hv]
   exact .inl (by rw [Zbp q9 n3 (new 8 d8 _ (Zx E9 hdep 8 (by simp)) (by rw [hDS];rfl) (by rw [hv];rfl)),← hJ];rfl)
  | 10, ho =>
   obtain rfl:o10=o:=Xp ho
   refine ⟨?_,fun h=>by omega⟩
   rw [hv]
   have h14:L 14=Xc:=by
    cases h14:L 14 with
    | false => rfl
    | true =>
     have z13:=Zx E14 (at' 14 o14 (by rw [hops];rfl) h14) 13 (by simp)
     have z10:=Zx E13 (at' 13 o13 (by rw [hops];rfl) z13) 10 (by simp)
     rw [hL] at z10;cases z10
   exact .inl (ZaY q10 (YU n4) (new 9 d9 _ (Zx E10 hdep 9 (by simp)) (by rw [hDS];rfl) (by rw [hv];rfl)) (by rw [wfst h14,Zl hdb];exact b5))
  | 11, ho =>
   obtain rfl:o11=o:=Xp ho
   refine ⟨?_,fun h=>by omega⟩
   rw [hv]
   exact .inl (by rw [KB q11,hI.old a hao,hka];rfl)
  | 12, ho =>
   obtain rfl:o12=o:=Xp ho
   refine ⟨?_,fun h=>by omega⟩
   rw [hv]
   exact .inl (by rw [Zmm q12 (new 11 d11 _ (Zx E12 hdep 11 (by simp)) (by rw [hDS];rfl) (by rw [hv];rfl)),hinc];rfl)
  | 13, ho =>
   obtain rfl:o13=o:=Xp ho
   refine ⟨?_,fun h=>by omega⟩
   rw [hv]
   exact .inl (Zsi q13 n4 (by omega) (new 10 d10 _ (Zx E13 hdep 10 (by simp)) (by rw [hDS];rfl) (by rw [hv];rfl)) (new 12 d12 _ (Zx E13 hdep 12 (by simp)) (by rw [hDS];rfl) (by rw [hv];rfl)) (by omega) w5)
  | 14, ho =>
   obtain rfl:o14=o:=Xp ho
   refine ⟨?_,fun h=>l17 hL⟩
   rw [hv]
   exact .inl (ZpF q14 qa qb qc (new 6 d6 _ (Zx E14 hdep 6 (by simp)) (by rw [hDS];rfl) (by rw [hv])) (new 13 d13 _ (Zx E14 hdep 13 (by simp)) (by rw [hDS];rfl) (by rw [hv])) (by rw [wfst hL];exact hap _))
  | 15, ho =>
   obtain rfl:o15=o:=Xp ho
   refine ⟨?_,fun h=>by omega⟩
   rw [hv]
   exact .inl (Zcc q15 (new 0 d0 _ (Zx E15 hdep 0 (by simp)) (by rw [hDS];rfl) (by rw [hv];rfl)))
  | 16, ho =>
   obtain rfl:o16=o:=Xp ho
   refine ⟨?_,fun h=>by omega⟩
   rw [hv]
   exact .inl (by rw [Zbp q16 n3 (new 15 d15 _ (Zx E16 hdep 15 (by simp)) (by rw [hDS];rfl) (by rw [hv];rfl)),← hJ];rfl)
  | 17, ho =>
   obtain rfl:o17=o:=Xp ho
   refine ⟨?_,fun h=>by omega⟩
   rw [hv]
   have h14:L 14=Xb:=Zx E17 hdep 14 (by simp)
   have hwX:wX=w1:=by rw [hI.wrl,hL,h14];rfl
   refine .inr ⟨rfl,?_⟩
   have:=Zjp (P:=P) (w:=wX) q17 hinfT hT1 (new 16 d16 _ (Zx E17 hdep 16 (by simp)) (by rw [hDS];rfl) (by rw [hv];rfl)) (new 14 d14 _ (Zx E17 hdep 14 (by simp)) (by rw [hDS];rfl) (by rw [hv];rfl)) hu1.1 hu1.2 (by rw [hwX];exact hw1b) hJl
   rw [this,hwX,← hw2]
   rfl
  | j + 18, ho => cases ho
 ·rw [hsize,if_pos (by omega)]
  have hbl:b < w.heap.size:=(hsim.ours d q b b1).1
  have hstep:ZU w lim w2 lim (fun b'=>b'=b∨∃ j,X (ngN+b) j=Xa b'):=by
   refine ⟨by rw [hw2,hw1];rfl,by rw [hw2,hw1];rfl,by rw [hw2,hw1];rfl,by rw [hw2,hw1];simp,fun a' _=>?_,fun k' _ hk'=>⟨?_,rfl⟩,fun k' _=>⟨XA _,fun o' u' ho' hu'=>?_⟩⟩
   ·rw [hw2,Ya w1 b arr _ _ hw1b,hw1,Ya w.drew bb arr3 _ _ hd3]
    rfl
   ·have hkb:k'≠b:=fun he=>hk' (.inl he)
    have hkbb:k'≠bb:=fun he=>hk' (.inr ⟨J,by rw [he];exact w1'⟩)
    rw [hw2,setRow_other w1 b k' _ hkb,hw1,setRow_other w.drew bb k' _ hkbb]
    rfl
   ·by_cases hkb:k'=b
    ·subst hkb;rw [b4] at ho';omega
    ·by_cases hkbb:k'=bb
     ·subst hkbb;rw [w4] at ho';omega
     ·unfold World.cell? at hu' ⊢
      rw [hw2,setRow_other w1 b k' _ hkb,hw1,setRow_other w.drew bb k' _ hkbb]
      exact hu'
  obtain ⟨ys',hys'⟩:∃ ys',ys'=ys.take kN++ys.drop (kN+1):=⟨_,rfl⟩
  obtain ⟨xs',hxs'⟩:∃ xs',xs'=Zq (l.den ρ) (i.den ρ).toNat off [AV.nest (P.cellsOf e) Xb e ys']:=⟨_,rfl⟩
  have hil:=(Xn.1 hrow).1
  have hol:off < c.P.cellsOf (bT D):=by rw [← b9 row (Xj hrow)];exact (Xn.1 hz).1
  have hxl:=Zh (l.den ρ) _ b9
  have hmem:=Ys (i:=(i.den ρ).toNat) (o:=off) (e:=[AV.nest (P.cellsOf e) Xb e ys']) b9 b10 (by simp;omega) (fun z hz=>by simp at hz;subst hz;rfl)
  have hfl:=Jz (i:=(i.den ρ).toNat) (o:=off) (e:=[AV.nest (P.cellsOf e) Xb e ys']) b9 hil (by simp;omega)
  have hmul:(i.den ρ).toNat*c.P.cellsOf (bT D)+c.P.cellsOf (bT D)≤(l.den ρ).length*c.P.cellsOf (bT D):=by rw [← Uj];exact XF _ hil
  have hfget:∀ j,xs'.flatten[j]? = if j=J then Xa (.nest (P.cellsOf e) Xb e ys') else (l.den ρ).flatten[j]?:=fun j=>by
   rw [hxs',hfl,KO _ _ _ (by simp [hxl];omega),← hJ]
   by_cases hj:j=J
   ·subst hj;rw [if_pos (by simp),if_pos rfl];simp
   ·rw [if_neg (by simp;omega),if_neg hj]
  have haget:∀ j:Nat,(arr.toList.set J nv).toArray[j]? = if j=J then Xa nv else arr[j]?:=fun j=>by
   simp only [U1,Uy]
   by_cases hj:J=j
   ·subst hj
    rw [if_pos rfl,if_pos rfl,if_pos (by simpa using hJl)]
   ·rw [if_neg hj,if_neg (Ne.symm hj)]
    simp
  have hdel:=Zjo (P:=P) (w:=w) (lim:=lim) (w':=w2) (lim':=lim) w7 w5 w6 hkl w8 w9 w10 hstep.ext hw23 w4
  rw [← hnv,← hys'] at hdel
  have hset:=hsim.deepStep (w':=w2) (lim':=lim) (E':=D) (xs':=xs') (Y':=X (ngN+b)) hown (Kb ρ n6) b1 hstep
   (Vg (.inr hdp) (by rw [← b1];exact hsim.deepB (Z4 hown)) b3 hw2b (by simp) (by rw [hxs'];simp [Zq]) b4 (fun x hx=>by rw [hxs'] at hx;exact (hmem x hx).1) (fun x hx=>by rw [hxs'] at hx;exact (hmem x hx).2) (fun j z u' hz' hu'=>by
    rw [hfget] at hz'
    rw [haget] at hu'
    by_cases hj:j=J
    ·rw [if_pos hj] at hz' hu'
     cases hz'
     cases hu'
     rw [hnv]
     exact .nest
    ·rw [if_neg hj] at hz' hu'
     exact (b11 j z u' hz' hu').mono hstep.ext) (.inr ⟨hdp,rfl,ZaO hsim hown b1 hdp⟩))
   (by rw [hxs'];simp [Zq]) ⟨fun arr' e' h'=>by
    rw [b3] at h'
    simp only [Xf,Obj.cells.injEq,and_true] at h'
    obtain ⟨rfl,rfl⟩:=h'
    exact ⟨_,hw2b,by simp⟩,fun es clock h'=>by rw [b3] at h';cases h'⟩ (.inl rfl) (.mv (.inr (.inl hdp))) (fun j b' hb'=>.inl ⟨j,hb'⟩) (fun j j' b' q1 q2=>(hsim.dist _ j _ j' b' q1 q2).2)
   (fun _=>⟨⟨_,hw2b⟩,fun j s1 e1 zs u' hz' hu'=>by
    rw [hfget] at hz'
    rw [Zl hw2b,haget] at hu'
    by_cases hj:j=J
    ·rw [if_pos hj] at hz' hu'
     simp only [Xf,AV.nest.injEq,true_and] at hz'
     obtain ⟨rfl,rfl,rfl⟩:=hz'
     cases hu'
     subst hj
     rw [w1',hcP]
     exact ⟨rfl,by rw [← hcP];exact b7,hdel⟩
    ·rw [if_neg hj] at hz' hu'
     obtain ⟨m1,m2,m3⟩:=(hsim.nst d q D _ b (Z4 hown) hdp b1).2 j s1 e1 zs u' hz' (by rw [Zl b3];exact hu')
     have hne:∀ b',X (ngN+b) j=Xa b'→b'≠b∧b'≠bb:=fun b' hb'=>by
      refine ⟨fun he=>?_,fun he=>?_⟩
      ·subst he
       have:=(hsim.dist d q _ j b' b1 hb').1
       rw [this] at hown
       rw [hsim.far _ (XX _ _)] at hown
       cases hown
      ·subst he
       exact hj (hsim.dist _ j _ J b' hb' w1').2
     exact ⟨m1,m2,m3.mono hstep.ext fun b' hb'=>⟨by
      obtain ⟨k1,k2⟩:=hne b' hb'
      rw [hw2,setRow_other w1 b b' _ k1,hw1,setRow_other w.drew bb b' _ k2]
      rfl,rfl⟩⟩⟩)
  -- the slots that were written
  have hdD:d∉DS:=fun hm=>by
   have:=(hfr' d hm).2
   rcases ZG hown with ⟨g1,_⟩ | ⟨cs,q',g1,_⟩ | ⟨cs,q',g1,_⟩
   ·exact this.2.1 _ _ g1
   ·exact this.1 _ g1
   ·exact this.2.2 _ g1
  have hdn:d < E.nt:=by rw [← hcn];exact JJ hsim (by intro he;rw [he] at hown;cases hown) (Kb ρ n6)
  obtain ⟨X',f1,_⟩:=hset.forget DS fun x hx=>⟨by rw [hcn];exact (hfr' x hx).1,by
   have hne:x≠d:=fun he=>hdD (he ▸ hx)
   rw [Zf _ _ hne]
   exact (hfr' x hx).2⟩
  have hlow2:YE E (VR DS++[(d,Z6 (gE E s d) q Xb D (.fn (.dput off (P.cellsOf e) Xb e) l i (.app (.take (.fn (.dget off) l i .nil .nil) k) (.drop (.fn (.dget off) l i .nil .nil) (.bin .add .i64 k (.lit 1)))) .nil))]):=by
   have:=ZcL (E:=E) fun x hx=>(hfr' x hx).1
   unfold YE at this ⊢
   rw [List.all_append,this]
   simp [JN hdn]
  rw [hDS] at hlow2
  have hbl:=Jy n2 (hs d)
  have hbi:i.bd n:=by have:=hs p;rw [n1] at this;exact this
  have hbk:k.bd n:=by have:=hs a;rw [hga] at this;exact this
  refine hk _ n ρ (Jb hnt _ _ hlow2 hs fun u hu=>?_) h tX w2 lim X' ?_
  ·rcases Xs.1 hu with hu | hu
   ·unfold VR at hu
    obtain ⟨x,_,rfl⟩:=Xm.1 hu
    trivial
   ·rw [XH.1 hu]
    exact JK (hs d) ⟨hbl,hbi,⟨⟨⟨hbl,hbi,trivial,trivial⟩,hbk⟩,⟨hbl,hbi,trivial,trivial⟩,hbk,trivial⟩,trivial⟩
  ·rw [Jn hnt ρ _ _ hlow2,XJ,Xk,XL,Jv,Kz,← hDS,Zdq]
   have hval:(LE.fn (.dput off (P.cellsOf e) Xb e) l i (.app (.take (.fn (.dget off) l i .nil .nil) k) (.drop (.fn (.dget off) l i .nil .nil) (.bin .add .i64 k (.lit 1)))) .nil).den ρ=xs':=by
    show Jj (l.den ρ) (i.den ρ).toNat off (.nest (P.cellsOf e) Xb e ((Yi (l.den ρ) (i.den ρ).toNat off).take (k.den ρ).toNat++(Yi (l.den ρ) (i.den ρ).toNat off).drop (iop .add .i64 (k.den ρ) 1).toNat))=_
    rw [hget,hkN,hinc,hxs',hys']
    rfl
   rw [hval]
   have hfun:JC (upd (ZO E s ρ) d (Zp (ZO E s ρ d) q Xb D xs')) (DS.map fun d=>(d,AV.dead))=upd (JC (ZO E s ρ) (DS.map fun d=>(d,AV.dead))) d (Zp ((gE E s d).den ρ) q Xb D xs'):=by
    funext x
    by_cases hx:x=d
    ·subst hx
     rw [ZC,Yo,if_neg hdD,ZC]
     rfl
    ·rw [Zf _ _ hx,Yo,Yo,Zf _ _ hx]
   rw [← hfun]
   refine f1.tm (by rw [hX1,hsz]) fun x hx=>hX2 x fun j hj=>hx ?_
   rw [Yo,if_pos (Xj hj)]
theorem Zfx (hm:P.follows .mixedOrders=Xb) (hnt:E.top≤1024) {ops:Array Oper} {r:Nat×Nat×TypeId×Nat×TypeId×List Nat} (hp:ZeW ops=Xa r) {id:Nat} {c:Ctx} (hcP:c.P=P) (hcn:c.nt=E.nt) {s:Tr} {n:Nat} {kn:Tr→Nat→STree} {ρ:Nat→V} {tm:Array Value} {w:World}
  {lim:Nat→Nat} {X:Nat→Nat→Option Nat} {Q:Exit→Act→World→Prop} (hs:YK E s n) (h:(Zip P E r s n kn).wp P R A ρ) (hsim:Sim c (ZO E s ρ) tm w lim X)
  (hk:∀ s' n' ρ',YK E s' n'→(kn s' n').wp P R A ρ'→∀ tm' w' lim' X',Sim c (ZO E s' ρ') tm' w' lim' X'→Q .normal ⟨tm',[]⟩ w'):(Code.region id ops Xb).wp P Q ⟨tm,[]⟩ w:=by
 unfold ZeW at hp
 split at hp
 case h_2=>cases hp
 rename_i o0 o1 o2 o3 o4 o5 o6 o7 o8 o9 o10 o11 hops
 split at hp
 case h_2=>cases hp
 rename_i TS p f d0 T x1 d1 a d2 T3 x3 y3 d3 TS4 p4 f4 d4 T5 x5 d5 e0 e1 e2 e3 e4 e5
 split at hp
 case h_2=>cases hp
 rename_i a6 d6 x7 d7 T8 x8 y8 d8 T9 x9 y9 d9 TS10 p10 f10 d10 T11 x11 y11 e6 e7 e8 e9 e10 e11
 split at hp
 case isFalse=>cases hp
 rename_i hh
 obtain ⟨⟨⟨h1,h2,h3,h4,h5,h6,h7,h8,h9⟩,h10,h11,h12,h13,h14,h15,h16,h17⟩,⟨h18,h19,h20,h21,h22,h23⟩,hnd,hlow,hedge⟩:=hh
 have h1:=h1.symm;subst h1
 have h2:=h2.symm;subst h2
 have h3:=h3.symm;subst h3
 have h4:=h4.symm;subst h4
 have h5:=h5.symm;subst h5
 have h6:=h6.symm;subst h6
 have h7:=h7.symm;subst h7
 have h8:=h8.symm;subst h8
 have h9:=h9.symm;subst h9
 have h10:=h10.symm;subst h10
 have h11:=h11.symm;subst h11
 have h12:=h12.symm;subst h12
 have h13:=h13.symm;subst h13
 have h14:=h14.symm;subst h14
 have h15:=h15.symm;subst h15
 have h16:=h16.symm;subst h16
 have h17:=h17.symm;subst h17
 have h18:=h18.symm;subst h18
 have h19:=h19.symm;subst h19
 have h20:=h20.symm;subst h20
 have h21:=h21.symm;subst h21
 have h22:=h22.symm;subst h22
 have h23:=h23.symm;subst h23
 cases hp
 simp only [Xx] at hedge
 obtain ⟨⟨⟨⟨⟨⟨E1,E3⟩,E5⟩,E7⟩,E8⟩,E9⟩,E11⟩:=hedge
 have hnd:=Y3 _ hnd
 obtain ⟨q0,g0,u0⟩:=KN e0
 obtain ⟨q1,g1,u1⟩:=Kv e1
 obtain ⟨q2,g2,u2⟩:=J1 e2
 obtain ⟨q3,g3,u3⟩:=ZlR e3
 obtain ⟨q4,g4,u4⟩:=KN e4
 obtain ⟨q5,g5,u5⟩:=Kv e5
 obtain ⟨q6,g6,u6⟩:=J1 e6
 obtain ⟨⟨I1,I2,q7⟩,g7,u7⟩:=Zg0 e7
 obtain ⟨q8,g8,u8⟩:=ZlT e8
 obtain ⟨⟨cl,q9,qa,qb,qc⟩,g9,u9⟩:=Ziy e9
 obtain ⟨q10,g10,u10⟩:=KN e10
 obtain ⟨q11,g11,u11⟩:=Zjm e11
 simp only [Zip] at h
 split at h
 case h_2=>exact h.elim
 rename_i cs off e k hgp n3 n4 hga
 split at h
 case h_2=>exact h.elim
 rename_i e' l hcs
 split at h
 case isFalse=>exact h.elim
 rename_i hh
 obtain ⟨hfr,hs0,hT1,rfl,hnm,hdr⟩:=hh
 obtain ⟨r3,r4,h⟩:=h
 have r3:(0:Int)≤k.den ρ:=r3
 have hσp:ZO E s ρ p = .box (cs.map (BC.den ρ)):=by show (gE E s p).den ρ=_;rw [hgp];rfl
 have hrel:=hsim.rel p
 rw [hσp] at hrel
 obtain ⟨b,arr,t,b1,b2,b3,b4,b5,b6,b7⟩:=(show ZN c.P w lim (X p) _ _ from hrel)
 obtain ⟨ys,hys⟩:∃ ys,ys=l.den ρ:=⟨_,rfl⟩
 have hcs':(cs.map (BC.den ρ))[off]? = Xa (.own Xb e' ys):=by rw [Xl,hcs,hys];rfl
 have hol:off < arr.size:=by rw [b4];exact (Xn.1 hcs').1
 have hcu:arr[off]? = Xa arr[off]:=X8 hol
 have b8:Vz c.P w lim Xb e' ys arr[off] (X p (off+1)):=Wr (show ZY c.P w lim Xb e' ys _ _ from b7 off _ _ hcs' hcu) (by rw [hcP];exact hnm)
 obtain ⟨kN,hkN⟩:∃ kN:Nat,k.den ρ=(kN:Int):=⟨(k.den ρ).toNat,by omega⟩
 have hkl:kN < ys.length:=by
  have:k.den ρ < (((l.den ρ).length:Nat):Int):=r4
  rw [hkN,← hys] at this
  omega
 have hka:tm.getD a undef = .int .i64 (kN:Int):=by
  have:=hsim.rel a
  rw [show ZO E s ρ a = .val (.int .i64 (k.den ρ)) from by show (gE E s a).den ρ=_;rw [hga];rfl] at this
  rw [← hkN]
  exact YV (show Rep w lim _ _ from this)
 obtain ⟨bb,arr3,cap3,w1',w2',w3,w4,w5,w6,w7,w8,w9,w10⟩:=Zbh b8 (by intro he;rw [he] at hkl;simp at hkl)
 have b5':arr[off]? = Xa (.slice (Xa ⟨bb,0,Xe⟩) ys.length cap3):=by rw [hcu,w2']
 rw [hcP] at w7 w8
 obtain ⟨inf,hinf⟩:=Zy (show P.cellsOf e'≠0 by omega)
 obtain ⟨infT,hinfT⟩:=Zy (show P.cellsOf T≠0 by omega)
 have hbb:bb≠b:=fun he=>by
  subst he
  have:=(hsim.dist p 0 p (off+1) bb b1 w1').2
  omega
 -- the worlds
 obtain ⟨nv,hnv⟩:∃ nv:Value,nv = .slice (Xa ⟨bb,0,Xe⟩) (ys.length-1) cap3:=⟨_,rfl⟩
 obtain ⟨w1,hw1⟩:∃ w1,w1=w.drew.setRow bb (ZkP arr3.toList (P.cellsOf e') kN ys.length).toArray:=⟨_,rfl⟩
 obtain ⟨w2,hw2⟩:∃ w2,w2=w1.setRow b (arr.toList.set off nv).toArray:=⟨_,rfl⟩
 have hd3:w.drew.heap[bb]? = Xa (.cells arr3 e' (0,0)):=w3
 have hdb:w.drew.heap[b]? = Xa (.cells arr t (0,0)):=b3
 have hw1b:w1.heap[b]? = Xa (.cells arr t (0,0)):=by rw [hw1,setRow_other w.drew bb b _ (Ne.symm hbb)];exact hdb
 have hw13:w1.heap[bb]? = Xa (.cells (ZkP arr3.toList (P.cellsOf e') kN ys.length).toArray e' (0,0)):=by rw [hw1];exact setRow_heap w.drew bb arr3 _ e' (0,0) hd3
 have hw2b:w2.heap[b]? = Xa (.cells (arr.toList.set off nv).toArray t (0,0)):=by rw [hw2];exact setRow_heap w1 b arr _ t (0,0) hw1b
 have hw23:w2.heap[bb]? = Xa (.cells (ZkP arr3.toList (P.cellsOf e') kN ys.length).toArray e' (0,0)):=by rw [hw2,setRow_other w1 b bb _ hbb];exact hw13
 have hap:=fun ty=>Zk8 (P:=P) (ty:=ty) n4 hinf hd3 w7 hkl w5 (Zgt w7 w5 w8 w9 w10)
 rw [← hw1,← hnv] at hap
 have hinc:iop .add .i64 (kN:Int) 1=((kN+1:Nat):Int):=by
  show IntKind.i64.wrap _=_
  rw [U6]
  unfold maxLen at w6
  omega
 -- the values
 obtain ⟨DS,hDS⟩:∃ DS:List Nat,DS = [d0,d1,d2,d3,d4,d5,d6,d7,d8,d9,d10]:=⟨_,rfl⟩
 obtain ⟨v,hv⟩:∃ v:Nat→Value,v=fun j=>([.pointer (Xa ⟨b,0+off,Xe⟩),.slice (Xa ⟨bb,0,Xe⟩) ys.length cap3,.int .i64 (kN:Int),.slice (Xa ⟨bb,0,Xe⟩) kN cap3,.pointer (Xa ⟨b,0+off,Xe⟩),
  .slice (Xa ⟨bb,0,Xe⟩) ys.length cap3,.int .i64 (kN:Int),.int .i64 ((kN+1:Nat):Int),.slice (Xa (if cap3=kN+1 then ⟨bb,0,Xe⟩ else ⟨bb,(kN+1)*P.cellsOf e',Xe⟩)) (ys.length-(kN+1)) (cap3-(kN+1)),nv,
  .pointer (Xa ⟨b,0+off,Xe⟩),undef] : List Value).getD j undef:=⟨_,rfl⟩
 have hat:∀ j,ops[j]? = ops.toList[j]?:=fun j=>(UT ..).symm
 have hsize:ops.size=12:=by rw [← UX,hops];rfl
 have hsz:tm.size=E.nt:=by rw [hsim.size,hcn]
 have hfr':=ZcC hfr ρ
 rw [← hDS] at hfr hfr'
 have hDn:DS.Nodup:=by rw [hDS];exact hnd.sublist (by simp)
 have hao:∀ j:Nat,DS[j]?≠Xa a:=fun j hj=>by
  have hm:=Xj hj
  rw [X7] at hnd
  rw [hDS] at hm
  exact hnd.1 (UC _ hm)
 have hpo:∀ j:Nat,DS[j]?≠Xa p:=fun j hj=>by
  have hm:=Xj hj
  rw [X7,X7] at hnd
  rw [hDS] at hm
  exact hnd.2.1 hm
 have hu1:nv.cells = #[nv]∧nv.oneCell'=Xb:=by rw [hnv];exact ⟨rfl,rfl⟩
 refine Zls (nt:=E.nt) (D:=fun j=>DS[j]?) (v:=v) (m:=9) (l:=11) (w0:=w.drew) (w1:=w1) (w2:=w2) hm rfl (ZmQ hlow) (fun j o ho=>?_) (fun j j' x h1 h2=>Zdd hDn h1 h2) (fun j x hx=>(hfr' x (Xj hx)).1) hsz (fun j o ho L tX wX hL hdep hcl hI=>?_) (fun tX hX1 hX2 hX3=>?_)
 ·rw [hat,hops] at ho
  match j,ho with
  | 0, ho => obtain rfl : o0 = o := Xp ho; exact ⟨u0, by rw [hDS]; exact g0⟩
  | 1, ho => obtain rfl : o1 = o := Xp ho; exact ⟨u1, by rw [hDS]; exact g1⟩
  | 2, ho => obtain rfl : o2 = o := Xp ho; exact ⟨u2, by rw [hDS]; exact g2⟩
  | 3, ho => obtain rfl : o3 = o := Xp ho; exact ⟨u3, by rw [hDS]; exact g3⟩
  | 4, ho => obtain rfl : o4 = o := Xp ho; exact ⟨u4, by rw [hDS]; exact g4⟩
  | 5, ho => obtain rfl : o5 = o := Xp ho; exact ⟨u5, by rw [hDS]; exact g5⟩
  | 6, ho => obtain rfl : o6 = o := Xp ho; exact ⟨u6, by rw [hDS]; exact g6⟩
  | 7, ho => obtain rfl : o7 = o := Xp ho; exact ⟨u7, by rw [hDS]; exact g7⟩
  | 8, ho => obtain rfl : o8 = o := Xp ho; exact ⟨u8, by rw [hDS]; exact g8⟩
  | 9, ho => obtain rfl : o9 = o := Xp ho; exact ⟨u9, by rw [hDS]; exact g9⟩
  | 10, ho => obtain rfl : o10 = o := Xp ho; exact ⟨u10, by rw [hDS]; exact g10⟩
  | 11, ho => obtain rfl : o11 = o := Xp ho; exact ⟨u11, by rw [hDS]; exact g11⟩
  | j + 12, ho => cases ho
 ·rw [hat,hops] at ho
  have at':∀ (j:Nat) (o:Oper),ops.toList[j]? = Xa o→L j=Xb→∀ e∈o.after,Region.binds .any e=Xb→L e.on=Xb:=fun j o ho hj=>hcl j o (by rw [hat];exact ho) hj
  have new:∀ (j x:Nat) (y:Value),L j=Xb→DS[j]? = Xa x→v j=y→tX.getD x undef=y:=fun j x y h1 h2 h3=>by rw [hI.new j x h1 h2,h3]
  have l11:L 9=Xc→L 11=Xc:=fun h9=>by
   cases h11:L 11 with
   | false => rfl
   | true =>
    have:=Zx E11 (at' 11 o11 (by rw [hops];rfl) h11) 9 (by simp)
    rw [h9] at this;cases this
  have wfst:L 9=Xc→wX=w.drew:=fun h9=>by rw [hI.wrl,l11 h9,h9];rfl
  match j,ho with
  | 0, ho =>
   obtain rfl:o0=o:=Xp ho
   refine ⟨?_,fun h=>by omega⟩
   rw [hv]
   exact .inl (by rw [Zbp q0 n3 (by rw [hI.old p hpo,b2])];rfl)
  | 1, ho =>
   obtain rfl:o1=o:=Xp ho
   refine ⟨?_,fun h=>by omega⟩
   rw [hv]
   have h9:L 9=Xc:=by
    cases h9:L 9 with
    | false => rfl
    | true =>
     have z3:=Zx E9 (at' 9 o9 (by rw [hops];rfl) h9) 3 (by simp)
     have z1:=Zx E3 (at' 3 o3 (by rw [hops];rfl) z3) 1 (by simp)
     rw [hL] at z1;cases z1
   exact .inl (ZaY q1 (YU n4) (new 0 d0 _ (Zx E1 hdep 0 (by simp)) (by rw [hDS];rfl) (by rw [hv];rfl)) (by rw [wfst h9,Zl hdb,XM];exact b5'))
  | 2, ho =>
   obtain rfl:o2=o:=Xp ho
   refine ⟨?_,fun h=>by omega⟩
   rw [hv]
   exact .inl (by rw [KB q2,hI.old a hao,hka];rfl)
  | 3, ho =>
   obtain rfl:o3=o:=Xp ho
   refine ⟨?_,fun h=>by omega⟩
   rw [hv]
   exact .inl (ZsK q3 n4 (by omega) (new 1 d1 _ (Zx E3 hdep 1 (by simp)) (by rw [hDS];rfl) (by rw [hv];rfl)) (new 2 d2 _ (Zx E3 hdep 2 (by simp)) (by rw [hDS];rfl) (by rw [hv];rfl)) (by omega) w5)
  | 4, ho =>
   obtain rfl:o4=o:=Xp ho
   refine ⟨?_,fun h=>by omega⟩
   rw [hv]
   exact .inl (by rw [Zbp q4 n3 (by rw [hI.old p hpo,b2])];rfl)
  | 5, ho =>
   obtain rfl:o5=o:=Xp ho
   refine ⟨?_,fun h=>by omega⟩
   rw [hv]
   have h9:L 9=Xc:=by
    cases h9:L 9 with
    | false => rfl
    | true =>
     have z8:=Zx E9 (at' 9 o9 (by rw [hops];rfl) h9) 8 (by simp)
     have z5:=Zx E8 (at' 8 o8 (by rw [hops];rfl) z8) 5 (by simp)
     rw [hL] at z5;cases z5
   exact .inl (ZaY q5 (YU n4) (new 4 d4 _ (Zx E5 hdep 4 (by simp)) (by rw [hDS];rfl) (by rw [hv];rfl)) (by rw [wfst h9,Zl hdb,XM];exact b5'))
  | 6, ho =>
   obtain rfl:o6=o:=Xp ho
   refine ⟨?_,fun h=>by omega⟩
   rw [hv]
   exact .inl (by rw [KB q6,hI.old a hao,hka];rfl)
  | 7, ho =>
   obtain rfl:o7=o:=Xp ho
   refine ⟨?_,fun h=>by omega⟩
   rw [hv]
   exact .inl (by rw [Zmm q7 (new 6 d6 _ (Zx E7 hdep 6 (by simp)) (by rw [hDS];rfl) (by rw [hv];rfl)),hinc];rfl)
  | 8, ho =>
   obtain rfl:o8=o:=Xp ho
   refine ⟨?_,fun h=>by omega⟩
   rw [hv]
   exact .inl (Zsi q8 n4 (by omega) (new 5 d5 _ (Zx E8 hdep 5 (by simp)) (by rw [hDS];rfl) (by rw [hv];rfl)) (new 7 d7 _ (Zx E8 hdep 7 (by simp)) (by rw [hDS];rfl) (by rw [hv];rfl)) (by omega) w5)
  | 9, ho =>
   obtain rfl:o9=o:=Xp ho
   refine ⟨?_,fun h=>l11 hL⟩
   rw [hv]
   exact .inl (ZpF q9 qa qb qc (new 3 d3 _ (Zx E9 hdep 3 (by simp)) (by rw [hDS];rfl) (by rw [hv])) (new 8 d8 _ (Zx E9 hdep 8 (by simp)) (by rw [hDS];rfl) (by rw [hv])) (by rw [wfst hL];exact hap _))
  | 10, ho =>
   obtain rfl:o10=o:=Xp ho
   refine ⟨?_,fun h=>by omega⟩
   rw [hv]
   exact .inl (by rw [Zbp q10 n3 (by rw [hI.old p hpo,b2])];rfl)
  | 11, ho =>
   obtain rfl:o11=o:=Xp ho
   refine ⟨?_,fun h=>by omega⟩
   rw [hv]
   have h9:L 9=Xb:=Zx E11 hdep 9 (by simp)
   have hwX:wX=w1:=by rw [hI.wrl,hL,h9];rfl
   refine .inr ⟨rfl,?_⟩
   have:=Zjp (P:=P) (w:=wX) q11 hinfT hT1 (new 10 d10 _ (Zx E11 hdep 10 (by simp)) (by rw [hDS];rfl) (by rw [hv];rfl)) (new 9 d9 _ (Zx E11 hdep 9 (by simp)) (by rw [hDS];rfl) (by rw [hv];rfl)) hu1.1 hu1.2 (by rw [hwX];exact hw1b) (by omega)
   rw [this,hwX,XM,← hw2]
   rfl
  | j + 12, ho => cases ho
 ·rw [hsize,if_pos (by omega)]
  have hother:∀ b',b'≠b→b'≠bb→w2.heap[b']? = w.heap[b']?:=fun b' k1 k2=>by
   rw [hw2,setRow_other w1 b b' _ k1,hw1,setRow_other w.drew bb b' _ k2]
   rfl
  have hstep:ZU w lim w2 lim (fun b'=>b'=b∨b'=bb):=by
   refine ⟨by rw [hw2,hw1];rfl,by rw [hw2,hw1];rfl,by rw [hw2,hw1];rfl,by rw [hw2,hw1];simp,fun a' _=>?_,fun k' _ hk'=>⟨hother k' (fun he=>hk' (.inl he)) (fun he=>hk' (.inr he)),rfl⟩,fun k' _=>⟨XA _,fun o' u' ho' hu'=>?_⟩⟩
   ·rw [hw2,Ya w1 b arr _ _ hw1b,hw1,Ya w.drew bb arr3 _ _ hd3]
    rfl
   ·by_cases hkb:k'=b
    ·subst hkb;rw [b5] at ho';omega
    ·by_cases hkbb:k'=bb
     ·subst hkbb;rw [w4] at ho';omega
     ·unfold World.cell? at hu' ⊢
      rw [hother k' hkb hkbb]
      exact hu'
  obtain ⟨ys',hys'⟩:∃ ys',ys'=ys.take kN++ys.drop (kN+1):=⟨_,rfl⟩
  have hdel:=Zjo (P:=P) (w:=w) (lim:=lim) (w':=w2) (lim':=lim) w7 w5 w6 hkl w8 w9 w10 hstep.ext hw23 w4
  rw [← hnv,← hys'] at hdel
  have hpn:p < c.nt:=JJ hsim (by rw [hσp];exact fun h=>by cases h) (by rw [hσp];rfl)
  have hnr:∀ i q,i≠p→¬ Jl (ZO E s ρ i) p q:=fun i q hi hr=>by
   have:=(JB (g:=gE E s) ρ (d:=p) (Zat s)).2 i q hi hr
   rw [List.isEmpty_iff] at hdr
   rw [hdr] at this
   cases this
  have haget:∀ j:Nat,(arr.toList.set off nv).toArray[j]? = if j=off then Xa nv else arr[j]?:=fun j=>by
   simp only [U1,Uy]
   by_cases hj:off=j
   ·subst hj
    rw [if_pos rfl,if_pos rfl,if_pos (by simpa using hol)]
   ·rw [if_neg hj,if_neg (Ne.symm hj)]
    simp
  have hkept:∀ d q b',X d q=Xa b'→¬ (d=p∧(q=0∨q=off+1))→ZfM w lim w2 lim b':=fun d q b' hb' hn=>⟨hother b' (fun he=>by
    subst he
    obtain ⟨z1,z2⟩:=hsim.dist d q p 0 b' hb' b1
    exact hn ⟨z1,.inl z2⟩) (fun he=>by
    subst he
    obtain ⟨z1,z2⟩:=hsim.dist d q p (off+1) b' hb' w1'
    exact hn ⟨z1,.inr z2⟩),rfl⟩
  have hpN:p < ngN:=XO hpn hsim.ntN
  have hset:=hsim.putRow (x:=.box ((cs.map (BC.den ρ)).set off (.own Xb e' ys'))) (tm':=tm) (X p) hstep (fun b' hb'=>by
    rcases hb' with rfl | rfl
    ·exact ⟨0,b1⟩
    ·exact ⟨off+1,w1'⟩) hpn rfl (fun _ _=>rfl) (.inr ⟨⟨_,rfl⟩,rfl,rfl⟩) (fun i q hi hr=>(hnr i q hi hr).elim) (by
    show ZN c.P w2 lim (Ke X p (X p) p) _ _
    rw [Zo]
    refine ⟨b,(arr.toList.set off nv).toArray,t,b1,b2,hw2b,by simp [b4],b5,fun y hy=>?_,fun i y u hy hu=>?_⟩
    ·rcases Ue hy with hy | rfl
     ·exact b6 y hy
     ·exact .inr (.inl ⟨_,_,_,rfl⟩)
    ·rw [haget] at hu
     rw [Uy] at hy
     by_cases hi:i=off
     ·subst hi
      rw [if_pos rfl] at hu
      rw [if_pos rfl,if_pos (Xn.1 hcs').1] at hy
      cases hy
      cases hu
      rw [w1']
      show ZY c.P w2 lim Xb e' ys' nv (Xa bb)
      rw [hcP]
      exact hdel.own
     ·rw [if_neg hi] at hu
      rw [if_neg (Ne.symm hi)] at hy
      exact (b7 i y u hy hu).mono hstep.ext fun b' hb'=>hkept p (i+1) b' hb' (by rintro ⟨_,h0 | h0⟩ <;> omega))
   (fun q b' hq=>⟨XO (hsim.ours p q b' hq).1 hstep.size,(hsim.ours p q b' hq).2,fun i j hij hx=>hij (hsim.dist i j p q b' hx hq).1⟩) (fun q q' b' hq hq'=>(hsim.dist p q p q' b' hq hq').2)
   (hns:=fun q e1 xs1 b' m1 m2 m3=>by
    rcases JR m1 with ⟨m4,m5⟩ | ⟨m4,m5⟩
    ·cases m5
     rw [hcP,ZT hnm] at m2
     cases m2
    ·refine (hsim.nst p q e1 xs1 b' (by rw [hσp];exact m5) m2 m3).mono hstep.ext (hkept p q b' m3 (fun hh=>hh.2.elim (fun h0=>by subst h0;cases m5) m4)).1 fun j b2 hb2=>hkept _ j b2 hb2 (by rintro ⟨h0,_⟩;omega))
  -- the slots that were written
  have hpD:p∉DS:=fun hm=>by
   obtain ⟨j,hj⟩:=XU.1 hm
   exact hpo j hj
  obtain ⟨X',f1,_⟩:=hset.forget DS fun x hx=>⟨by rw [hcn];exact (hfr' x hx).1,by
   have hne:x≠p:=fun he=>hpD (he ▸ hx)
   rw [Zf _ _ hne]
   exact (hfr' x hx).2⟩
  have hlow2:YE E (VR DS++[(p,.box (cs.set off (.own Xb e' (.app (.take l k) (.drop l (.bin .add .i64 k (.lit 1)))))))]):=by
   have:=ZcL (E:=E) fun x hx=>(hfr' x hx).1
   unfold YE at this ⊢
   rw [List.all_append,this]
   simp [JN (show p < E.nt by rw [← hcn];exact hpn)]
  rw [hDS] at hlow2
  have hbp:=hs p
  rw [hgp] at hbp
  have hbl:l.bd n:=hbp _ (Xj hcs)
  have hbk:k.bd n:=by have:=hs a;rw [hga] at this;exact this
  refine hk _ n ρ (Jb hnt _ _ hlow2 hs fun u hu=>?_) h tX w2 lim X' ?_
  ·rcases Xs.1 hu with hu | hu
   ·unfold VR at hu
    obtain ⟨x,_,rfl⟩:=Xm.1 hu
    trivial
   ·rw [XH.1 hu]
    intro c0 hc0
    rcases Ue hc0 with hc0 | rfl
    ·exact hbp c0 hc0
    ·exact ⟨⟨hbl,hbk⟩,hbl,hbk,trivial⟩
  ·rw [Jn hnt ρ _ _ hlow2,XJ,Xk,XL,Kz,← hDS,Zdq]
   have hval:(SV.box (cs.set off (.own Xb e' (.app (.take l k) (.drop l (.bin .add .i64 k (.lit 1))))))).den ρ = .box ((cs.map (BC.den ρ)).set off (.own Xb e' ys')):=by
    simp only [SV.den,Uv]
    congr 2
    show AV.own Xb e' ((l.den ρ).take (k.den ρ).toNat++(l.den ρ).drop (iop .add .i64 (k.den ρ) 1).toNat)=_
    rw [hkN,hinc,hys',hys]
    rfl
   rw [hval]
   have hfun:JC (upd (ZO E s ρ) p (.box ((cs.map (BC.den ρ)).set off (.own Xb e' ys')))) (DS.map fun d=>(d,AV.dead))=upd (JC (ZO E s ρ) (DS.map fun d=>(d,AV.dead))) p (.box ((cs.map (BC.den ρ)).set off (.own Xb e' ys'))):=by
    funext x
    by_cases hx:x=p
    ·subst hx
     rw [ZC,Yo,if_neg hpD,ZC]
    ·rw [Zf _ _ hx,Yo,Yo,Zf _ _ hx]
   rw [← hfun]
   refine f1.tm (by rw [hX1,hsz]) fun x hx=>hX2 x fun j hj=>hx ?_
   rw [Yo,if_pos (Xj hj)]
theorem ZoC (hnt:E.top≤1024) {c:Ctx} {s:Tr} {n:Nat} {ρ:Nat→V} {tm:Array Value} {w:World} {lim:Nat→Nat} {X:Nat→Nat→Option Nat} {d:Nat} (hs:YK E s n) (hsim:Sim c (ZO E s ρ) tm w lim X) :
  YK E (Z8 (ZP (gE E s) d E.top) s) n∧∃ X',Sim c (ZO E (Z8 (ZP (gE E s) d E.top) s) ρ) tm w lim X':=by
 have hlow:YE E (ZP (gE E s) d E.top):=by
  unfold YE
  rw [XC]
  intro u hu
  simpa using ((Js E.top u).1 hu).2.1
 have hda:Kj (ZO E s ρ) d ((ZP (gE E s) d E.top).map fun u=>(u.1,u.2.den ρ)):=JB (g:=gE E s) ρ (Zat s)
 refine ⟨Jb hnt _ _ hlow hs fun u hu=>by rw [((Js E.top u).1 hu).1];trivial,?_⟩
 rw [Jn hnt _ _ _ hlow]
 obtain ⟨X1,k1,_⟩:=hsim.drops ((ZP (gE E s) d E.top).map fun u=>(u.1,u.2.den ρ)) fun u hu=>by
  obtain ⟨m0,m1,k,m3⟩:=hda.1 u hu
  obtain ⟨p1,p2,p3⟩:=Yx m3
  exact ⟨m1,p2,JJ hsim (fun e=>by rw [e] at m3;rcases m3 with m3 | ⟨_,m3⟩ <;> cases m3) p3⟩
 exact ⟨X1,k1⟩
theorem ZgX (hm:P.follows .mixedOrders=Xb) (hps:EnvSound P E) (hnt:E.top≤1024) {ops:Array Oper} {draw:Bool} {f:Tr→Nat→(Tr→Nat→STree)→STree} (hf:Zmr P E ops draw=Xa f) {id:Nat} {c:Ctx} (hcP:c.P=P) (hcn:c.nt=E.nt) {s:Tr} {n:Nat} {kn:Tr→Nat→STree} {ρ:Nat→V} {tm:Array Value} {w:World}
  {lim:Nat→Nat} {X:Nat→Nat→Option Nat} {Q:Exit→Act→World→Prop} (hs:YK E s n) (h:(f s n kn).wp P R A ρ) (hsim:Sim c (ZO E s ρ) tm w lim X)
  (hk:∀ s' n' ρ',YK E s' n'→(kn s' n').wp P R A ρ'→∀ tm' w' lim' X',Sim c (ZO E s' ρ') tm' w' lim' X'→Q .normal ⟨tm',[]⟩ w'):(Code.region id ops draw).wp P Q ⟨tm,[]⟩ w:=by
 unfold Zmr at hf
 split at hf
 ·split at hf
  ·rename_i r hr
   cases hf
   exact ZfR hps hnt hr hcP hcn hs h hsim hk
  ·cases hr:ZjO ops with
   | none => rw [hr] at hf; cases hf
   | some r =>
    rw [hr] at hf
    simp only [Xv,Xf] at hf
    subst hf
    exact Zhi hps hnt hr hcP hcn hs h hsim hk
 ·split at hf
  ·rename_i r hr
   cases hf
   exact Zg3 hm hnt hr hcP hcn hs h hsim hk
  ·cases hr:ZeW ops with
   | none => rw [hr] at hf; cases hf
   | some r =>
    rw [hr] at hf
    simp only [Xv,Xf] at hf
    subst hf
    obtain ⟨k1,X1,k2⟩:=ZoC hnt (d:=r.2.1) hs hsim
    exact Zfx hm hnt hr hcP hcn k1 h k2 hk
end
theorem Znp:∀ (hs:List (Nat×HP)) (d:Nat) (h h':HP),(hs.map (·.1)).Nodup→(d,h)∈hs→(d,h')∈hs→h=h'
 | [], _, _, _, _, h, _ => by simp at h
 | p :: r, d, h, h', hn, h1, h2 => by
  rw [Xk,X7] at hn
  rcases Xu.1 h1 with e1 | e1
  ·rcases Xu.1 h2 with e2 | e2
   ·rw [← e1] at e2
    exact (Prod.mk.inj e2).2.symm
   ·exact (hn.1 (by rw [← e1];exact Xm.2 ⟨_,e2,rfl⟩)).elim
  ·rcases Xu.1 h2 with e2 | e2
   ·exact (hn.1 (by rw [← e2];exact Xm.2 ⟨_,e1,rfl⟩)).elim
   ·exact Znp r d h h' hn.2 e1 e2
theorem Zdr:∀ (us:List (Nat×AV)) (d:Nat) (x:AV),Zbc us d=Xa x→(d,x)∈us
 | [], d, x, h => by simp [Zbc] at h
 | (e, y) :: us, d, x, h => by
  simp only [Zbc] at h
  cases hl:Zbc us d with
  | some z =>
   rw [hl] at h
   simp only [Xf] at h
   subst h
   exact UC _ (Zdr us d _ hl)
  | none =>
   rw [hl] at h
   simp only at h
   split at h
   ·rename_i hd
    simp only [Xf] at h
    subst h
    subst hd
    exact List.mem_cons_self
   ·cases h
theorem Zkk {E:Env} {d:Nat} {h:HP} (hp:h.place E d=Xb):d < E.top∧(h.isG=Xb∨d < E.nt):=by
 cases h<;>simp only [HP.place,Xx,decide_eq_true_eq] at hp
 case gbox l=>exact ⟨hp.2,.inl rfl⟩
 all_goals exact ⟨JN hp,.inr hp⟩
theorem WQ {E:Env} {hs:List (Nat×HP)} (h:Zf6 E hs=Xb):(hs.map (·.1)).Nodup∧(∀ p∈hs,p.1 < E.top∧(p.2.isG=Xb∨p.1 < E.nt))∧((∀ d d' o,(d,HP.ptr d' o)∈hs→∃ l:HP,l.isBox=Xb∧(d',l)∈hs)∧(∀ d d' k,(d,HP.mref d' k)∈hs→∃ l:HP,l.isPl k=Xb∧(d',l)∈hs)∧∀ d d' k s o,(d,HP.eref d' k s o)∈hs→∃ l:HP,l.isPl k=Xb∧(d',l)∈hs)∧
  (∀ d∈E.pins,∃ l:HP,l.isBox=Xb∧(d,l)∈hs)∧(∀ d g ds,(d,HP.clo g ds)∈hs→∀ d'∈ds,∃ l:HP,(l.isBox||l.isG)=Xb∧(d',l)∈hs)∧∀ d,E.nt≤d→d < E.top→∃ l:HP,l.isG=Xb∧(d,l)∈hs:=by
 have hany:∀ (f:HP→Bool) (d:Nat),(hs.any fun q=>decide (q.1=d)&&f q.2)=Xb→∃ l:HP,f l=Xb∧(d,l)∈hs:=by
  intro f d hd
  rw [List.any_eq_true] at hd
  obtain ⟨q,hq,hd⟩:=hd
  obtain ⟨q1,q2⟩:=q
  simp only [Xx,decide_eq_true_eq] at hd
  obtain ⟨rfl,hd⟩:=hd
  exact ⟨_,hd,hq⟩
 simp only [Zf6,Xx] at h
 obtain ⟨⟨⟨h1,h2⟩,h3⟩,h4⟩:=h
 rw [XC] at h2 h3 h4
 refine ⟨Y3 _ h1,fun p hp=>?_,⟨fun d d' o hm=>?_,fun d d' k hm=>?_,fun d d' k s o hm=>?_⟩,fun d hd=>hany HP.isBox d (h3 d hd),fun d g ds hm d' hd'=>?_,fun d hd hd'=>?_⟩
 ·have:=h2 p hp
  simp only [Xx] at this
  exact Zkk this.1
 ·have:=h2 _ hm
  simp only [Xx] at this
  exact hany HP.isBox d' this.2
 ·have:=h2 _ hm
  simp only [Xx] at this
  exact hany (fun h=>h.isPl k) d' this.2
 ·have:=h2 _ hm
  simp only [Xx] at this
  exact hany (fun h=>h.isPl k) d' this.2
 ·have:=h2 _ hm
  simp only [Xx] at this
  have h5:=this.2
  rw [XC] at h5
  exact hany (fun h=>h.isBox||h.isG) d' (h5 d' hd')
 ·have:=h4 (d-E.nt) (List.mem_range.2 (by have:E.top=E.nt+E.ng:=rfl;omega))
  rw [show E.nt+(d-E.nt)=d by omega] at this
  exact hany HP.isG d this
theorem Zqu {P:Program} {E:Env} (hnt:E.top≤1024) {hs:List (Nat×HP)} (hok:Zf6 E hs=Xb) {s:Tr} {ρ ρ0:Nat→V} {ves:List VE} (hv:Kf P (gE E s) hs=Xa ves) :
  (∀ d,d∉hs.map (·.1)→ZO E (Z8 (Ja hs 0).1 (.leaf .dead)) (bind ρ0 0 (ves.map (VE.den ρ))) d = .dead)∧
  ∀ d h,(d,h)∈hs→∃ m,ZO E (Z8 (Ja hs 0).1 (.leaf .dead)) (bind ρ0 0 (ves.map (VE.den ρ))) d=KX h (ves.map (VE.den ρ)) m∧
   (Ztx h (ZO E s ρ d) (KX h (ves.map (VE.den ρ)) m)∨Y2 P (ZO E s ρ d) (KX h (ves.map (VE.den ρ)) m)):=by
 obtain ⟨k1,k2,k3,k4,k5,k6⟩:=WQ hok
 obtain ⟨h1,h2,h3⟩:=Vs (P:=P) (g:=gE E s) (ρ:=ρ) hs 0 ves [] hv rfl
 have hl:YE E (Ja hs 0).1:=by
  unfold YE
  rw [XC]
  intro u hu
  have hm:u.1∈hs.map (·.1):=by rw [← h2];exact Xm.2 ⟨u,hu,rfl⟩
  obtain ⟨p,hp,he⟩:=Xm.1 hm
  have:=(k2 p hp).1
  rw [he] at this
  simpa using this
 have hdead:∀ d,ZO E (.leaf .dead) (bind ρ0 0 (ves.map (VE.den ρ))) d = .dead:=by
  intro d
  simp only [ZO,gE]
  split<;>rfl
 have hfst:((Ja hs 0).1.map fun u=>(u.1,u.2.den (bind ρ0 0 (ves.map (VE.den ρ))))).map (·.1)=hs.map (·.1):=by rw [Uf];exact h2
 rw [Jn hnt _ _ _ hl]
 refine ⟨fun d hd=>?_,fun d h hm=>?_⟩
 ·rw [JM,Kk _ d (by rw [hfst];exact hd),hdead]
  rfl
 ·obtain ⟨x,hx⟩:=Wt ((Ja hs 0).1.map fun u=>(u.1,u.2.den (bind ρ0 0 (ves.map (VE.den ρ))))) d (by rw [hfst];exact Xm.2 ⟨_,hm,rfl⟩)
  obtain ⟨u,hu,he⟩:=Xm.1 (Zdr _ _ _ hx)
  simp only [Xo] at he
  obtain ⟨rfl,rfl⟩:=he
  obtain ⟨h',g1,m,g2,g3,g4,g5⟩:=h3 u hu
  have:h'=h:=Znp hs u.1 h' h k1 g1 hm
  subst this
  have hden:u.2.den (bind ρ0 0 (ves.map (VE.den ρ)))=KX h' (ves.map (VE.den ρ)) m:=by
   rw [g2]
   refine Zm5 g4 fun j hj=>?_
   have hlt:m+j < (ves.map (VE.den ρ)).length:=by rw [Xi];omega
   have:=Zi8.bind ρ0 0 (ves.map (VE.den ρ)) (m+j) _ (Xq hlt)
   rw [XM] at this
   rw [this,vAt,Xq hlt]
   rfl
  refine ⟨m,?_,?_⟩
  ·rw [JM,hx,← hden]
   rfl
  ·have:=g5 []
   simp only [X4,Us] at this
   exact this
theorem ZcE:∀ (l:List Sh) (us:List V) (j k:Nat) (s:Sh),l[k]? = Xa s→(Jf l us j)[k]? = Xa (Ky s (vAt us (j+k)))
 | [], _, _, _, _, h => by simp at h
 | t :: ts, us, j, 0, s, h => by
  simp only [XK,Xf] at h
  subst h
  rfl
 | t :: ts, us, j, k + 1, s, h => by
  have:=ZcE ts us (j+1) k s (by simpa using h)
  rw [show j+1+k=j+(k+1) by omega] at this
  simpa [Jf] using this
theorem Zfm {h:HP} {k:Nat} (hk:h.isPl k=Xb) (us:List V) (m:Nat):∃ p,Zr (KX h us m) k=Xa p:=by
 unfold HP.isPl at hk
 split at hk
 ·exact ⟨_,rfl⟩
 ·rename_i l k
  split at hk
  ·rename_i e hl
   have:=ZcE l us m k _ hl
   refine ⟨(e,(vAt us (m+k)).list),?_⟩
   simp only [KX,Zr,this,Ky]
  ·cases hk
 ·rename_i l k
  split at hk
  ·rename_i e hl
   have:=ZcE l us m k _ hl
   refine ⟨(e,(vAt us (m+k)).list),?_⟩
   simp only [KX,Zr,this,Ky]
  ·cases hk
 ·cases hk
theorem ZiC {P:Program} {E:Env} (hnt:E.top≤1024) {c:Ctx} (hcP:c.P=P) (hcn:c.nt=E.nt) (hpin:∀ d v,c.pin d=Xa v→d∈E.pins) (hgpin:∀ d b,c.gpin d=Xa b→E.nt≤d∧d < E.top) {hs:List (Nat×HP)} (hok:Zf6 E hs=Xb) {s:Tr} {ρ:Nat→V} (ρ0:Nat→V) {ves:List VE}
  (hv:Kf P (gE E s) hs=Xa ves) {tm:Array Value} {w:World} {lim:Nat→Nat} {X:Nat→Nat→Option Nat} (hsim:Sim c (ZO E s ρ) tm w lim X) :
  ∃ X',Sim c (ZO E (Z8 (Ja hs 0).1 (.leaf .dead)) (bind ρ0 0 (ves.map (VE.den ρ)))) tm w lim X':=by
 obtain ⟨k1,k2,k3,k4,k5,k6⟩:=WQ hok
 obtain ⟨h1,h2⟩:=Zqu (P:=P) hnt hok (ρ0:=ρ0) (ρ:=ρ) hv
 have hbox:∀ d (l:HP),l.isBox=Xb→(d,l)∈hs→∃ cs,ZO E (Z8 (Ja hs 0).1 (.leaf .dead)) (bind ρ0 0 (ves.map (VE.den ρ))) d = .box cs:=by
  intro d l hl hm
  obtain ⟨m,g1,_⟩:=h2 d _ hm
  cases l<;>simp [HP.isBox] at hl<;>exact ⟨_,g1⟩
 have hgb:∀ d (l:HP),l.isG=Xb→(d,l)∈hs→(ZO E (Z8 (Ja hs 0).1 (.leaf .dead)) (bind ρ0 0 (ves.map (VE.den ρ))) d).isG=Xb:=by
  intro d l hl hm
  obtain ⟨m,g1,_⟩:=h2 d _ hm
  rw [g1]
  cases l<;>simp [HP.isG] at hl<;>rfl
 refine hsim.head (fun d=>?_) (fun d hd=>?_) (fun d v hp=>?_) fun d b hp=>?_
 ·by_cases hm:d∈hs.map (·.1)
  ·obtain ⟨p,hp,rfl⟩:=Xm.1 hm
   obtain ⟨m,g1,g2⟩:=h2 p.1 p.2 hp
   unfold ZqE
   rw [g1,hcP]
   rcases g2 with (⟨d',o,g2,g3⟩ | ⟨d',k,g2,g3⟩ | ⟨g,ds,g2,g3⟩ | ⟨d',k,s',o,q,g2,g3,g4⟩) | g2
   ·obtain ⟨l,hl,hm⟩:=k3.1 p.1 d' o (by rw [← g2];exact hp)
    exact .inr (.inl ⟨d',o,g3,by rw [g2];rfl,hbox d' l hl hm⟩)
   ·obtain ⟨l,hl,hm⟩:=k3.2.1 p.1 d' k (by rw [← g2];exact hp)
    obtain ⟨m',q1,_⟩:=h2 d' l hm
    exact .inr (.inr (.inl ⟨d',k,g3,by rw [g2];rfl,by rw [q1];exact Zfm hl _ _⟩))
   ·refine .inr (.inr (.inr (.inl ⟨g,ds,g3,by rw [g2];rfl,fun d' hd'=>?_⟩)))
    obtain ⟨l,hl,hm⟩:=k5 p.1 g ds (by rw [← g2];exact hp) d' hd'
    rw [US] at hl
    rcases hl with hl | hl
    ·obtain ⟨cs,hcs⟩:=hbox d' l hl hm
     rw [hcs];rfl
    ·exact Za1 (hgb d' l hl hm)
   ·obtain ⟨l,hl,hm⟩:=k3.2.2 p.1 d' k s' o (by rw [← g2];exact hp)
    obtain ⟨m',q1,_⟩:=h2 d' l hm
    exact .inr (.inr (.inr (.inr ⟨d',k,q,g3,g4,by rw [q1];exact Zfm hl _ _⟩)))
   ·exact .inl g2
  ·unfold ZqE
   rw [h1 d hm]
   exact .inl .dead
 ·by_cases hm:d∈hs.map (·.1)
  ·obtain ⟨p,hp,rfl⟩:=Xm.1 hm
   rcases (k2 p hp).2 with h3 | h3
   ·exact .inr (hgb p.1 p.2 h3 hp)
   ·omega
  ·exact .inl (h1 d hm)
 ·obtain ⟨l,hl,hm⟩:=k4 d (hpin d v hp)
  exact hbox d l hl hm
 ·obtain ⟨m1,m2⟩:=hgpin d b hp
  obtain ⟨l,hl,hm⟩:=k6 d m1 m2
  exact hgb d l hl hm
theorem Zgj {ops:Array Oper} {x a d:Nat} {T:TypeId} {neg:Bool} (h:Zit ops=Xa (x,a,d,T,neg)) :
  ∃ o p U,ops.toList = [o,p]∧o.guard=Xe∧p.guard=Xe∧o.op = .move (.tmp x)∧o.dst=Xa a∧p.op = .binOp (if neg=Xb then .neq else .eql) T (.tmp a) (.const (.slice Xe 0 0)) U∧p.dst=Xa d:=by
 unfold Zit at h
 split at h
 ·rename_i o p hops
  split at h
  ·rename_i hg
   simp only [TN] at hg
   split at h
   ·rename_i h1 h2 h3 h4
    split at h
    ·rename_i hb
     subst hb
     simp only [Xf,Xo] at h
     obtain ⟨rfl,rfl,rfl,rfl,rfl⟩:=h
     exact ⟨o,p,_,hops,hg.1,hg.2,h1,h2,by simpa using h3,h4⟩
    ·cases h
   ·rename_i h1 h2 h3 h4
    split at h
    ·rename_i hb
     subst hb
     simp only [Xf,Xo] at h
     obtain ⟨rfl,rfl,rfl,rfl,rfl⟩:=h
     exact ⟨o,p,_,hops,hg.1,hg.2,h1,h2,by simpa using h3,h4⟩
    ·cases h
   ·cases h
  ·cases h
 ·cases h
theorem ZdE {ops:Array Oper} {x i a b c:Nat} {T:TypeId} (h:Zcj ops=Xa (x,i,a,b,c,T)) :
  ∃ o p q r,ops.toList = [o,p,q,r]∧o.guard=Xe∧p.guard=Xe∧q.guard=Xe∧r.guard=Xe∧o.op = .move (.tmp x)∧o.dst=Xa a∧p.op = .move (.tmp i)∧p.dst=Xa b∧
   q.op = .slice T (.tmp a) (Xa (.tmp b)) Xe Xe∧q.dst=Xa c∧(∃ cl,r.op = .call cl∧cl.callee = .builtin .clear∧cl.args = #[.tmp c]∧cl.argTypes = #[T])∧r.dst=Xe:=by
 unfold Zcj at h
 split at h
 case h_2=>cases h
 rename_i o p q r hops
 split at h
 case isFalse=>cases h
 rename_i hg
 simp only [TN] at hg
 split at h
 case h_2=>cases h
 rename_i x' a' i' b' h1 h2 h3 h4
 split at h
 case h_2=>cases h
 rename_i T' a'' b'' c' cl h5 h6 h7 h8
 split at h
 case h_2=>cases h
 rename_i c'' T'' h9 h10 h11
 split at h
 case isFalse=>cases h
 rename_i he
 obtain ⟨e1,e2,e3,e4⟩:=he
 subst e1 e2 e3 e4
 simp only [Xf,Xo] at h
 obtain ⟨rfl,rfl,rfl,rfl,rfl,rfl⟩:=h
 exact ⟨o,p,q,r,hops,hg.1,hg.2.1,hg.2.2.1,hg.2.2.2,h1,h2,h3,h4,h5,h6,⟨cl,h7,h9,by rw [← h10,UE],by rw [← h11,UE]⟩,h8⟩
theorem Zj9 {P:Program} {w:World} {lim:Nat→Nat} {X:Nat→Nat→Option Nat} {g:Nat→SV} {d:Nat} {x:SV} {l:LE} {ρ:Nat→V} {v:Value} (hx:Zlu P g x=Xa l) (h:ZZ P w lim X (fun d=>(g d).den ρ) d (x.den ρ) v) :
  ∃ a k cap,v = .slice a k cap∧(a.isNone=Xb→l.den ρ = []):=by
 have hrep:∀ f s,Rep w lim (.slice f s (l.den ρ)) v→∃ a k cap,v = .slice a k cap∧(a.isNone=Xb→l.den ρ = []):=by
  intro f s hr
  have key:∀ y,Rep w lim y v→y = .slice f s (l.den ρ)→∃ a k cap,v = .slice a k cap∧(a.isNone=Xb→l.den ρ = []):=by
   intro y hy hye
   cases hy with
   | sliceN => injection hye with _ _ h3; exact ⟨Xe, 0, 0, rfl, fun _ => h3.symm⟩
   | sliceE _ => injection hye with _ _ h3; exact ⟨_, _, _, rfl, fun _ => h3.symm⟩
   | sliceC _ _ _ _ _ _ _ _ => exact ⟨_, _, _, rfl, fun h => by cases h⟩
   | val _ => cases hye
   | agg _ _ _ => cases hye
   | nest => cases hye
  exact key _ hr rfl
 unfold Zlu at hx
 split at hx
 ·simp only [Xf] at hx
  subst hx
  exact hrep _ _ h
 ·split at hx
  case isFalse=>cases hx
  rename_i hnm
  simp only [Xf] at hx
  subst hx
  rcases ZY.noMap (show ZY P w lim _ _ _ v (X d 0) from h) hnm with ⟨us,h1,_⟩ | ⟨h1,_,a,h2⟩
  ·rcases h1.2 with ⟨hv,hn⟩ | ⟨g,cap,cur,hv,_⟩
   ·exact ⟨Xe,0,0,hv,fun _=>Ub hn⟩
   ·exact ⟨_,_,_,hv,fun h=>by cases h⟩
  ·exact ⟨_,_,_,h2,fun h=>by cases h⟩
 ·rename_i d' q
  cases hp:Jd (g d') q with
  | none => rw [hp] at hx; cases hx
  | some p =>
   rw [hp] at hx
   dsimp only at hx
   split at hx
   case isFalse=>cases hx
   rename_i hnm
   simp only [Xf] at hx
   subst hx
   obtain ⟨e,xs,h1,h2⟩:=h
   have h3:Zr ((g d').den ρ) q=Xa (p.1,p.2.den ρ):=ZQ ρ hp
   have h1':Zr ((g d').den ρ) q=Xa (e,xs):=h1
   rw [h3] at h1'
   simp only [Xf,Xo] at h1'
   obtain ⟨he,rfl⟩:=h1'
   rw [he] at hnm
   rcases h2.noMap hnm with ⟨_,h1,h2 | ⟨a,h2⟩⟩ | ⟨b,arr,cap,_,_,_,h2⟩
   ·exact ⟨Xe,0,0,h2,fun _=>Ub h1⟩
   ·exact ⟨_,_,_,h2,fun h=>by cases h⟩
   ·exact ⟨_,_,_,h2,fun h=>by cases h⟩
 ·cases hx
theorem Sim.refit {c:Ctx} {σ σ':Nat→AV} {tm:Array Value} {w:World} {lim lim':Nat→Nat} {X:Nat→Nat→Option Nat} {S:Nat→Prop} (h:Sim c σ tm w lim X) (hw:ZU w lim w lim' S) (hS:∀ b,S b→c.A b∨c.w0.heap.size≤b)
  (hrel:∀ i,ZZ c.P w lim' X σ' i (σ' i) (tm.getD i undef)) (hout:∀ i,c.nt≤i→σ' i = .dead∨(σ' i).isG=Xb) (hG:∀ i,(σ' i).isG=(σ i).isG) (hB:∀ i cs,σ i = .box cs→∃ cs',σ' i = .box cs') (hmp:∀ d e xs,σ' d = .own Xb e xs→ZfO c.P w lim' e xs (X d))
  (hns:∀ d k e xs b,Z5 (σ' d) k=Xa (e,xs)→Zg c.P e=Xb→X d k=Xa b→VK c.P w lim' e xs b (X (ngN+b))):Sim c σ' tm w lim' X where
 mp:=hmp
 nst:=hns
 ntN:=h.ntN
 yfr:=h.yfr
 far d hd:=by
  rcases hout d (XY h.ntN hd) with h1 | h1
  ·exact h1
  ·rw [hG,h.far d hd] at h1;cases h1
 rel:=hrel
 size:=h.size
 out:=hout
 ghost d hd:=h.ghost d (by rw [← hG];exact hd)
 dist:=h.dist
 ours:=h.ours
 frm:=h.frm.step hw hS
 pin d v hv:=by
  obtain ⟨h1,cs,h2⟩:=h.pin d v hv
  exact ⟨h1,hB d cs h2⟩
 gpin d b hb:=by
  obtain ⟨h1,h2⟩:=h.gpin d b hb
  exact ⟨h1,by rw [hG];exact h2⟩
theorem Sim.freeze {c:Ctx} {σ:Nat→AV} {tm:Array Value} {w:World} {lim:Nat→Nat} {X:Nat→Nat→Option Nat} (h:Sim c σ tm w lim X) {d q:Nat} {e:TypeId} {xs:List (List AV)} {us:List (Nat×AV)} (hdn:(σ d).isG=Xc) (hp:Zr (σ d) q=Xa (e,xs))
  (hs0:c.P.cellsOf e≠0) (hnm:Zk c.P e=Xc) (h1:∀ u∈us,u.1≠d∧((σ u.1 = .mref d q∧u.2 = .slice Xc (c.P.cellsOf e) xs)∨((∃ o,σ u.1 = .eref d q o)∧u.2 = .dead))) (h2:∀ i,Jl (σ i) d q→i∈us.map (·.1)) :
  ∃ lim',Sim c (JC (upd σ d (Zp (σ d) q Xc e xs)) us) tm w lim' X:=by
 have hnG:∀ cs,σ d≠.gbox cs:=fun cs he=>by rw [he] at hdn;cases hdn
 obtain ⟨v0,ho⟩:=J4 h hp
 refine ⟨fun b=>if X d q=Xa b then xs.length*c.P.cellsOf e else lim b,?_⟩
 have hlim0:∀ b,X d q=Xa b→lim b=0:=by
  intro b hb
  rw [hb] at ho
  obtain ⟨_,_,_,_,g,_⟩:=V1 ho (.inl hnm)
  exact g
 have hw:ZU w lim w (fun b=>if X d q=Xa b then xs.length*c.P.cellsOf e else lim b) (fun b=>X d q=Xa b):=by
  refine ⟨rfl,rfl,rfl,XA _,fun _ _=>rfl,fun b _ hb=>⟨rfl,if_neg hb⟩,fun b _=>⟨?_,fun _ _ _ hu=>hu⟩⟩
  show lim b≤if X d q=Xa b then xs.length*c.P.cellsOf e else lim b
  split
  ·rename_i hb;rw [hlim0 b hb];exact XZ _
  ·exact XA _
 have hnew:∀ v,ZY c.P w lim Xb e xs v (X d q)→ZY c.P w (fun b=>if X d q=Xa b then xs.length*c.P.cellsOf e else lim b) Xc e xs v (X d q):=by
  intro v hv
  rcases hv.noMap hnm with ⟨ws,g1,g2,g3,g4,g5,g6⟩ | hv
  ·refine .inl ⟨ws,g1,g2,fun b hb=>?_,g4,g5,fun j z u hz hu=>(g6 j z u hz hu).mono hw.ext⟩
   show (if X d q=Xa b then xs.length*c.P.cellsOf e else lim b)=_
   rw [if_pos hb,if_neg (by simp),g1.1]
  ·exact .inr (.inl hv)
 have hkept:∀ i k b,(i≠d∨k≠q)→X i k=Xa b→ZfM w lim w (fun b=>if X d q=Xa b then xs.length*c.P.cellsOf e else lim b) b:=by
  intro i k b hik hb
  refine ⟨rfl,if_neg fun hb'=>?_⟩
  obtain ⟨e1,e2⟩:=h.dist i k d q b hb hb'
  exact hik.elim (fun h=>h e1) fun h=>h e2
 have hdu:d∉us.map (·.1):=by
  intro hm
  obtain ⟨u,hu,rfl⟩:=Xm.1 hm
  exact (h1 u hu).1 rfl
 -- what stands where
 have hat:∀ i,i≠d→(i∉us.map (·.1)∧JC (upd σ d (Zp (σ d) q Xc e xs)) us i=σ i)∨
   (σ i = .mref d q∧JC (upd σ d (Zp (σ d) q Xc e xs)) us i = .slice Xc (c.P.cellsOf e) xs)∨((∃ o,σ i = .eref d q o)∧JC (upd σ d (Zp (σ d) q Xc e xs)) us i = .dead):=by
  intro i hi
  rw [JM]
  by_cases hm:i∈us.map (·.1)
  ·obtain ⟨x,hx⟩:=Wt us i hm
   rw [hx]
   rcases (h1 _ (Zdr us i x hx)).2 with ⟨g1,g2⟩ | ⟨g1,g2⟩
   ·exact .inr (.inl ⟨g1,g2⟩)
   ·exact .inr (.inr ⟨g1,g2⟩)
  ·rw [Kk us i hm]
   exact .inl ⟨hm,Zf _ _ hi⟩
 have hatd:JC (upd σ d (Zp (σ d) q Xc e xs)) us d=Zp (σ d) q Xc e xs:=by
  rw [JM,Kk us d hdu]
  exact ZC _ _ _
 have hdG:(Zp (σ d) q Xc e xs).isG=Xc∧(σ d).isG=Xc:=by
  rcases ZG hp with ⟨g1,rfl⟩ | ⟨cs,k,g1,rfl,_⟩ | ⟨cs,k,g1,rfl,_⟩
  case inr.inr=>exact (hnG _ g1).elim
  all_goals rw [g1];exact ⟨rfl,rfl⟩
 have hdB:∀ cs,σ d = .box cs→∃ cs',Zp (σ d) q Xc e xs = .box cs':=by
  intro cs hcs
  rcases ZG hp with ⟨g1,rfl⟩ | ⟨cs',k,g1,rfl,_⟩ | ⟨cs,k,g1,rfl,_⟩
  case inr.inr=>exact (hnG _ g1).elim
  ·rw [g1] at hcs;cases hcs
  ·rw [g1];exact ⟨_,rfl⟩
 have hGall:∀ i,(JC (upd σ d (Zp (σ d) q Xc e xs)) us i).isG=(σ i).isG:=by
  intro i
  by_cases hi:i=d
  ·subst hi;rw [hatd,hdG.1,hdG.2]
  ·rcases hat i hi with ⟨_,g⟩ | ⟨g,g'⟩ | ⟨⟨o,g⟩,g'⟩
   ·rw [g]
   ·rw [g,g'];rfl
   ·rw [g,g'];rfl
 have hBall:∀ i cs,σ i = .box cs→∃ cs',JC (upd σ d (Zp (σ d) q Xc e xs)) us i = .box cs':=by
  intro i cs hcs
  by_cases hi:i=d
  ·subst hi;rw [hatd];exact hdB cs hcs
  ·rcases hat i hi with ⟨_,g⟩ | ⟨g,g'⟩ | ⟨⟨o,g⟩,g'⟩
   ·exact ⟨cs,g.trans hcs⟩
   ·rw [g] at hcs;cases hcs
   ·rw [g] at hcs;cases hcs
 have hmp:∀ i e1 xs1,JC (upd σ d (Zp (σ d) q Xc e xs)) us i = .own Xb e1 xs1→ZfO c.P w (fun b=>if X d q=Xa b then xs.length*c.P.cellsOf e else lim b) e1 xs1 (X i):=by
  intro i e1 xs1 he
  by_cases hi:i=d
  ·subst hi
   rw [hatd] at he
   rcases ZG hp with ⟨g1,rfl⟩ | ⟨cs,k,g1,rfl,_⟩ | ⟨cs,k,g1,rfl,_⟩
   ·rw [g1] at he;simp [Zp] at he
   ·rw [g1] at he;simp [Zp] at he
   ·exact (hnG _ g1).elim
  ·rcases hat i hi with ⟨_,g⟩ | ⟨_,g'⟩ | ⟨_,g'⟩
   ·rw [g] at he
    exact (h.mp i e1 xs1 he).mono hw.ext fun k b hb=>hkept i k b (.inl hi) hb
   ·rw [g'] at he;cases he
   ·rw [g'] at he;cases he
 have hdf:d < ngN:=by
  rcases XD d ngN with hlt | hge
  ·exact hlt
  ·rw [h.far d hge] at hp;cases hp
 have hns:∀ i k e1 xs1 b,Z5 (JC (upd σ d (Zp (σ d) q Xc e xs)) us i) k=Xa (e1,xs1)→Zg c.P e1=Xb→X i k=Xa b→VK c.P w (fun b=>if X d q=Xa b then xs.length*c.P.cellsOf e else lim b) e1 xs1 b (X (ngN+b)):=by
  intro i k e1 xs1 b m1 m2 m3
  have old:(i≠d∨k≠q)→Z5 (σ i) k=Xa (e1,xs1)→VK c.P w (fun b=>if X d q=Xa b then xs.length*c.P.cellsOf e else lim b) e1 xs1 b (X (ngN+b)):=fun hik ho=>
   (h.nst i k e1 xs1 b ho m2 m3).mono hw.ext (hkept i k b hik m3).1 fun j b' hb'=>hkept (ngN+b) j b' (.inl (by omega)) hb'
  by_cases hi:i=d
  ·subst hi
   rw [hatd] at m1
   rcases ZG hp with ⟨g1,rfl⟩ | ⟨cs,k',g1,rfl,g2⟩ | ⟨cs,k',g1,rfl,_⟩
   case inr.inr=>exact (hnG _ g1).elim
   ·rw [g1] at m1
    cases k with
    | zero => cases m1
    | succ k => cases m1
   ·rw [g1] at m1
    rcases JR m1 with ⟨_,m4⟩ | ⟨m4,m5⟩
    ·cases m4
    ·exact old (.inr m4) (by rw [g1];exact m5)
  ·rcases hat i hi with ⟨_,g⟩ | ⟨_,g'⟩ | ⟨_,g'⟩
   ·rw [g] at m1;exact old (.inl hi) m1
   ·rw [g'] at m1;cases k<;>cases m1
   ·rw [g'] at m1;cases k<;>cases m1
 refine h.refit hw (fun b hb=>(h.ours d q b hb).2) (fun i=>?_) (fun i hi=>?_) hGall hBall hmp hns
 ·by_cases hi:i=d
  ·subst hi
   rw [hatd]
   have hr:=h.rel i
   rcases ZG hp with ⟨g1,rfl⟩ | ⟨cs,k,g1,rfl,g2⟩ | ⟨cs,k,g1,rfl,_⟩
   case inr.inr=>exact (hnG _ g1).elim
   ·rw [g1] at hr ⊢
    exact hnew _ hr
   ·rw [g1] at hr ⊢
    obtain ⟨b,arr,t,k1,k2,k3,k4,k5,k6,k7⟩:=(show ZN c.P w lim (X i) cs _ from hr)
    refine ⟨b,arr,t,k1,k2,k3,by rw [Ud];exact k4,((hkept i 0 b (.inr (by omega)) k1).2).trans k5,fun x hx=>?_,fun j x u hx hu=>?_⟩
    ·rcases Ue hx with hx | hx
     ·exact k6 x hx
     ·exact .inr (.inl ⟨_,_,_,hx⟩)
    ·by_cases hj:j=k
     ·subst hj
      rw [List.getElem?_set_self (Xn.1 g2).1] at hx
      simp only [Xf] at hx
      subst hx
      exact hnew u (k7 j _ u g2 hu)
     ·rw [Ur (fun h=>hj h.symm)] at hx
      exact (k7 j x u hx hu).mono hw.ext fun b' hb'=>hkept i (j+1) b' (.inr (by omega)) hb'
  ·rcases hat i hi with ⟨hm,g⟩ | ⟨g,g'⟩ | ⟨⟨o,g⟩,g'⟩
   ·rw [g]
    have hr:=(h.rel i).mono hw.ext (fun k b hb=>hkept i k b (.inl hi) hb) fun d' k b _ _=>.of rfl
    refine hr.chg rfl (fun d' cs hd'=>⟨hBall d' cs hd',rfl⟩) (fun d' hd'=>⟨by rw [hGall];exact hd',rfl⟩) fun d' k hrf=>⟨?_,rfl⟩
    by_cases hdd:d'=d
    ·subst hdd
     rw [hatd]
     have hkq:k≠q:=fun he=>hm (h2 i (he ▸ hrf))
     intro e' ys hy
     rcases ZG hy with ⟨m1,rfl⟩ | ⟨cs,k',m1,rfl,m2⟩ | ⟨_,_,m1,_⟩
     case inr.inr=>exact (hnG _ m1).elim
     ·rcases ZG hp with ⟨_,h0⟩ | ⟨_,_,h0,_⟩ | ⟨_,_,h0,_⟩
      case inr.inr=>exact (hnG _ h0).elim
      ·exact (hkq h0.symm).elim
      ·rw [m1] at h0;cases h0
     ·rcases ZG hp with ⟨h0,_⟩ | ⟨cs2,q',h0,rfl,_⟩ | ⟨_,_,h0,_⟩
      case inr.inr=>exact (hnG _ h0).elim
      ·rw [m1] at h0;cases h0
      ·refine ⟨ys,?_,rfl⟩
       rw [m1]
       simp only [Zp,Zr]
       rw [Ur (by omega),m2]
    ·rcases hat d' hdd with ⟨_,m⟩ | ⟨m,m'⟩ | ⟨⟨o,m⟩,m'⟩
     ·rw [m];exact KF.refl _ _
     ·intro e' ys hy
      rw [m] at hy;cases hy
     ·intro e' ys hy
      rw [m] at hy;cases hy
   ·rw [g']
    have hr:=h.rel i
    rw [g] at hr
    obtain ⟨e',xs',k1,k2⟩:=hr
    rw [hp] at k1
    simp only [Xf,Xo] at k1
    obtain ⟨rfl,rfl⟩:=k1
    show Rep w _ _ _
    rcases k2.noMap hnm with ⟨_,k2,k3 | ⟨a,k3⟩⟩ | ⟨b,arr,cap,k2,k3,k4,k5⟩
    ·have:xs = []:=Ub k2
     subst this
     rw [k3];exact .sliceN
    ·have:xs = []:=Ub k2
     subst this
     rw [k3];exact .sliceE fun h=>by cases h
    ·have ho':=ho
     rw [k2] at ho'
     obtain ⟨arr0,cap0,m1,m2,_,_,_,m6,_⟩:=V1 ho' (.inl hnm)
     rw [k3] at m2
     simp only [Xf,Obj.cells.injEq,and_true] at m2
     subst m2
     have hcap:cap=cap0:=Nat.eq_of_mul_eq_mul_right (by omega) (k4.symm.trans m6)
     subst hcap
     rw [k5,← m1]
     exact ZY.rep (hnew v0 ho) Xc rfl
   ·rw [g']
    trivial
 ·by_cases hid:i=d
  ·subst hid
   rcases h.out i hi with h0 | h0
   ·rw [h0] at hp;cases hp
   ·rw [hdG.2] at h0;cases h0
  ·rcases hat i hid with ⟨_,g⟩ | ⟨g,_⟩ | ⟨⟨o,g⟩,_⟩
   ·rw [g];exact h.out i hi
   ·rcases h.out i hi with h0 | h0<;>rw [g] at h0<;>cases h0
   ·rcases h.out i hi with h0 | h0<;>rw [g] at h0<;>cases h0
theorem YS {P:Program} {g:Nat→SV} {d q:Nat} {e:TypeId} {l:LE} : ∀ (n:Nat) (u:Nat×SV),u∈K9 P g d q e l n↔u.1 < n∧((g u.1 = .mref d q∧u.2 = .c (.slice Xc (P.cellsOf e) l))∨((∃ i s o,g u.1 = .eref d q i s o)∧u.2 = .dead))
 | 0, u => by simp [K9]
 | n + 1, u => by
  have ih:=YS (P:=P) (g:=g) (d:=d) (q:=q) (e:=e) (l:=l) n u
  have up:∀ {p:Prop},(u.1 < n∧p)→(u.1 < n+1∧p):=fun h=>⟨by omega,h.2⟩
  simp only [K9]
  split
  ·rename_i d' q' hg
   split
   ·rename_i hh
    obtain ⟨rfl,rfl⟩:=hh
    rw [Xu,ih]
    constructor
    ·rintro (rfl | h)
     ·exact ⟨Uu n,.inl ⟨hg,rfl⟩⟩
     ·exact up h
    ·rintro ⟨h1,h2⟩
     by_cases hn:u.1=n
     ·left
      obtain ⟨a,b⟩:=u
      simp only at hn h2
      subst hn
      rcases h2 with ⟨_,h2⟩ | ⟨⟨_,_,_,h2⟩,_⟩
      ·rw [h2]
      ·rw [hg] at h2;cases h2
     ·exact .inr ⟨by omega,h2⟩
   ·rename_i hh
    rw [ih]
    refine ⟨up,fun ⟨h1,h2⟩=>⟨?_,h2⟩⟩
    by_cases hn:u.1=n
    ·rw [hn,hg] at h2
     rcases h2 with ⟨h2,_⟩ | ⟨⟨_,_,_,h2⟩,_⟩
     ·cases h2;exact (hh ⟨rfl,rfl⟩).elim
     ·cases h2
    ·omega
  ·rename_i d' q' i s o hg
   split
   ·rename_i hh
    obtain ⟨rfl,rfl⟩:=hh
    rw [Xu,ih]
    constructor
    ·rintro (rfl | h)
     ·exact ⟨Uu n,.inr ⟨⟨_,_,_,hg⟩,rfl⟩⟩
     ·exact up h
    ·rintro ⟨h1,h2⟩
     by_cases hn:u.1=n
     ·left
      obtain ⟨a,b⟩:=u
      simp only at hn h2
      subst hn
      rcases h2 with ⟨h2,_⟩ | ⟨_,h2⟩
      ·rw [hg] at h2;cases h2
      ·rw [h2]
     ·exact .inr ⟨by omega,h2⟩
   ·rename_i hh
    rw [ih]
    refine ⟨up,fun ⟨h1,h2⟩=>⟨?_,h2⟩⟩
    by_cases hn:u.1=n
    ·rw [hn,hg] at h2
     rcases h2 with ⟨h2,_⟩ | ⟨⟨_,_,_,h2⟩,_⟩
     ·cases h2
     ·cases h2;exact (hh ⟨rfl,rfl⟩).elim
    ·omega
  ·rename_i h1 h2
   rw [ih]
   refine ⟨up,fun ⟨g1,g2⟩=>⟨?_,g2⟩⟩
   by_cases hn:u.1=n
   ·rw [hn] at g2
    rcases g2 with ⟨g2,_⟩ | ⟨⟨_,_,_,g2⟩,_⟩
    ·exact (h1 _ _ g2).elim
    ·exact (h2 _ _ _ _ _ g2).elim
   ·omega
theorem Zgl {P:Program} {x y:SV} {k:Nat} (h:Zig P x k=Xa y):∃ cs j e l,x = .box cs∧k=j+1∧cs[j]? = Xa (.own Xc e l)∧y = .box (cs.set j (.c (.slice Xc (P.cellsOf e) l))):=by
 unfold Zig at h
 split at h
 ·rename_i cs j
  split at h
  ·rename_i e l hc
   cases h
   exact ⟨cs,j,e,l,rfl,rfl,hc,rfl⟩
  ·cases h
 ·cases h
theorem Sim.loose {c:Ctx} {σ:Nat→AV} {tm:Array Value} {w:World} {lim:Nat→Nat} {X:Nat→Nat→Option Nat} (h:Sim c σ tm w lim X) {d k:Nat} {e:TypeId} {xs:List (List AV)} {cs:List AV} (hd:σ d = .box cs) (hk:cs[k]? = Xa (.own Xc e xs)) :
  ∃ X',Sim c (upd σ d (.box (cs.set k (.slice Xc (c.P.cellsOf e) xs)))) tm w lim X':=by
 have hdn:d < c.nt:=by
  rcases XD d c.nt with hlt | hge
  ·exact hlt
  ·have:=h.out d hge;rw [hd] at this;rcases this with h0 | h0<;>cases h0
 have hr:=h.rel d
 rw [hd] at hr
 obtain ⟨b,arr,t,h1,h2,h3,h4,h5,h6,h7⟩:=(show ZN c.P w lim (X d) cs _ from hr)
 refine ⟨_,h.putRow (hns:=fun q e1 xs1 b' m1 m2 m3=>by
  rcases JR m1 with ⟨_,m4⟩ | ⟨m4,m5⟩
  ·cases m4
  ·exact h.nst d q e1 xs1 b' (by rw [hd];exact m5) m2 m3) (S:=fun _=>False) (X d) (ZU.refl w lim _) (fun _ hs=>hs.elim) hdn rfl (fun _ _=>rfl) (.inr ⟨⟨_,rfl⟩,rfl,rfl⟩) (fun i q _ _=>⟨fun e1 xs1 ho=>?_,rfl,fun _ _=>.of rfl⟩) ?_
  (fun q b' hq=>⟨(h.ours d q b' hq).1,(h.ours d q b' hq).2,fun i j hij hx=>hij (h.dist i j d q b' hx hq).1⟩) (fun q q' b' hq hq'=>(h.dist d q d q' b' hq hq').2)⟩
 ·rw [hd] at ho
  cases q with
  | zero => cases ho
  | succ q =>
   refine ⟨xs1,?_,rfl⟩
   have hq:q≠k:=fun he=>by
    subst he
    simp only [Zr,hk] at ho
    cases ho
   simp only [Zr,Uy,if_neg (Ne.symm hq)] at ho ⊢
   exact ho
 ·show ZN c.P w lim (Ke X d (X d) d) _ _
  rw [Zo]
  refine ⟨b,arr,t,h1,h2,h3,by rw [Ud];exact h4,h5,fun y hy=>?_,fun i y u hy hu=>?_⟩
  ·rcases Ue hy with hy | rfl
   ·exact h6 y hy
   ·exact .inl rfl
  ·rw [Uy] at hy
   split at hy
   ·rename_i hik
    subst hik
    split at hy
    ·cases hy
     exact ZY.rep (h7 k _ u hk hu) Xc rfl
    ·cases hy
   ·exact h7 i y u hy hu
theorem Zh5 {P:Program} {E:Env} (hnt:E.top≤1024) {c:Ctx} (hcP:c.P=P) {s s':Tr} {n:Nat} {ρ:Nat→V} (p:Nat×Nat) {tm:Array Value} {w:World} (hs:YK E s n) (h:∃ lim X,Sim c (ZO E s ρ) tm w lim X) (hd:Ziq P E s p=Xa s') :
  YK E s' n∧∃ lim X,Sim c (ZO E s' ρ) tm w lim X:=by
 unfold Ziq at hd
 split at hd
 case h_2=>cases hd
 rename_i e l hp
 split at hd
 case isFalse=>cases hd
 rename_i hh
 obtain ⟨hlt,hng⟩:=hh
 obtain ⟨lim,X,hsim⟩:=h
 have hl:=Jy hp (hs p.1)
 have hat:Zr (ZO E s ρ p.1) (p.2 % 1000)=Xa (e,l.den ρ):=ZQ ρ hp
 have hda:Kj (ZO E s ρ) p.1 ((ZP (gE E s) p.1 E.top).map fun u=>(u.1,u.2.den ρ)):=JB (g:=gE E s) ρ (Zat s)
 have gen:∀ (e2:TypeId) (l2:LE),l2.bd n→(∀ σ X,Sim c σ tm w lim X→Zr (σ p.1) (p.2 % 1000)=Xa (e,l.den ρ)→(σ p.1).isG=Xc→(∀ i,¬ Jl (σ i) p.1 (p.2 % 1000))→∃ lim' X',Sim c (upd σ p.1 (Zp (σ p.1) (p.2 % 1000) Xb e2 (l2.den ρ))) tm w lim' X')→
   YK E (Z8 (ZP (gE E s) p.1 E.top++[(p.1,Z6 (gE E s p.1) (p.2 % 1000) Xb e2 l2)]) s) n∧∃ lim X,Sim c (ZO E (Z8 (ZP (gE E s) p.1 E.top++[(p.1,Z6 (gE E s p.1) (p.2 % 1000) Xb e2 l2)]) s) ρ) tm w lim X:=by
  intro e2 l2 hb2 hstep
  have hlow:YE E (ZP (gE E s) p.1 E.top++[(p.1,Z6 (gE E s p.1) (p.2 % 1000) Xb e2 l2)]):=by
   unfold YE
   rw [XC]
   intro u hu
   rcases Xs.1 hu with hu | hu
   ·simpa using ((Js E.top u).1 hu).2.1
   ·rw [XH.1 hu];simpa using JN hlt
  refine ⟨Jb hnt _ _ hlow hs fun u hu=>?_,?_⟩
  ·rcases Xs.1 hu with hu | hu
   ·rw [((Js E.top u).1 hu).1];trivial
   ·rw [XH.1 hu];exact JK (hs p.1) hb2
  ·rw [Jn hnt _ _ _ hlow,XJ,Xk,XL,Jv,Kz]
   obtain ⟨X1,k1,k2⟩:=hsim.drops ((ZP (gE E s) p.1 E.top).map fun u=>(u.1,u.2.den ρ)) fun u hu=>by
    obtain ⟨m0,m1,k,m3⟩:=hda.1 u hu
    obtain ⟨p1,p2,p3⟩:=Yx m3
    exact ⟨m1,p2,JJ hsim (fun e=>by rw [e] at m3;rcases m3 with m3 | ⟨_,m3⟩ <;> cases m3) p3⟩
   have hnd:p.1∉((ZP (gE E s) p.1 E.top).map fun u=>(u.1,u.2.den ρ)).map (·.1):=by
    intro hm
    obtain ⟨u,hu,he⟩:=Xm.1 hm
    exact (hda.1 u hu).1 he
   have hsame:JC (ZO E s ρ) ((ZP (gE E s) p.1 E.top).map fun u=>(u.1,u.2.den ρ)) p.1=ZO E s ρ p.1:=Zcx _ _ _ hnd
   have hdead:∀ i,JC (ZO E s ρ) ((ZP (gE E s) p.1 E.top).map fun u=>(u.1,u.2.den ρ)) i=if i∈((ZP (gE E s) p.1 E.top).map fun u=>(u.1,u.2.den ρ)).map (·.1) then .dead else ZO E s ρ i:=fun i=>Ku _ _ i fun u hu=>(hda.1 u hu).2.1
   have:=hstep _ X1 k1 (by rw [hsame];exact hat) (by rw [hsame];exact Kb ρ hng) (fun i hr=>by
    rw [hdead] at hr
    split at hr
    ·rcases hr with hr | ⟨_,hr⟩ <;> cases hr
    ·rename_i hm
     by_cases hi:i=p.1
     ·subst hi
      rcases hr with hr | ⟨_,hr⟩ <;> (rw [hr] at hat;cases hat)
     ·exact hm (hda.2 i _ hi hr))
   rw [hsame] at this
   exact this
 split at hd
 ·split at hd
  case isFalse=>cases hd
  rename_i hh
  cases hd
  refine gen _ _ ⟨hl,trivial,trivial,trivial⟩ fun σ X hs h1 h2 h3=>?_
  obtain ⟨X',hx⟩:=hs.deepen h1 h2 (by rw [hcP];exact hh.1) (by rw [hcP];exact hh.2) (Zly hh.2) h3
  exact ⟨lim,X',hx⟩
 ·rename_i hdp
  split at hd
  case isFalse=>cases hd
  rename_i hh
  cases hd
  refine gen _ _ ⟨hl,trivial,trivial,trivial⟩ fun σ X hs h1 h2 h3=>?_
  exact hs.undeep h1 h2 (by rw [hcP];exact hdp) (by rw [hcP];exact hh) h3
 ·cases hd
theorem Sim.nilDeep {c:Ctx} {σ:Nat→AV} {tm:Array Value} {w:World} {lim:Nat→Nat} {X:Nat→Nat→Option Nat} (h:Sim c σ tm w lim X) {d k:Nat} {D:TypeId} {cs:List AV} {c0:AV} (hd:σ d = .box cs) (hk:cs[k]? = Xa c0)
  (h0:(∃ s,c0 = .slice Xb s [])∨c0 = .own Xc (bT D) []) (hdp:Zg c.P D=Xb) (hnm:Zk c.P (bT D)=Xc) :
  ∃ X',Sim c (upd σ d (.box (cs.set k (.own Xb D [])))) tm w lim X':=by
 have hdn:d < c.nt:=by
  rcases XD d c.nt with hlt | hge
  ·exact hlt
  ·have:=h.out d hge;rw [hd] at this;rcases this with h0 | h0<;>cases h0
 have hr:=h.rel d
 rw [hd] at hr
 obtain ⟨b,arr,t,h1,h2,h3,h4,h5,h6,h7⟩:=(show ZN c.P w lim (X d) cs _ from hr)
 have hkl:=(Xn.1 hk).1
 obtain ⟨u0,hu0⟩:∃ u,arr[k]? = Xa u:=⟨arr[k]'(by omega),X8 (by omega)⟩
 obtain ⟨ob,hob,hown⟩:∃ ob,(ob=Xe∨ob=X d (k+1))∧Vz c.P w lim Xb (bT D) [] u0 ob:=by
  have hc:=h7 k c0 u0 hk hu0
  rcases h0 with ⟨s,rfl⟩ | rfl
  ·rcases Zfz (Zan (P:=c.P) (x:=Xb) (e:=bT D) (show Rep w lim (.slice Xb s []) u0 from hc)) with hc | ⟨_,hc⟩
   ·exact ⟨Xe,.inl rfl,hc⟩
   ·rw [ZT hnm] at hc;cases hc
  ·rcases Zfz (show ZY c.P w lim Xc (bT D) [] u0 _ from hc) with hc | ⟨_,hc⟩
   ·exact ⟨_,.inr rfl,Wj hc⟩
   ·rw [ZT hnm] at hc;cases hc
 obtain ⟨r,hrd⟩:∃ r:Nat→Option Nat,r=fun q=>if q=k+1 then ob else X d q:=⟨_,rfl⟩
 have hrX:∀ q b',r q=Xa b'→X d q=Xa b':=fun q b' hq=>by
  rw [hrd] at hq
  dsimp only at hq
  split at hq
  ·rename_i e
   rcases hob with e1 | e1
   ·rw [e1] at hq;cases hq
   ·rw [e,← e1];exact hq
  ·exact hq
 have hr0:r 0=X d 0:=by rw [hrd];exact if_neg (by omega)
 refine ⟨_,h.putRow (hns:=fun q e1 xs1 b' m1 m2 m3=>by
  rcases JR m1 with ⟨m4,m5⟩ | ⟨m4,m5⟩
  ·cases m5
   rw [m4,hrd] at m3
   dsimp only at m3
   rw [if_pos rfl] at m3
   rw [m3] at hown
   refine ⟨?_,fun j s e ys u hz _=>by simp at hz⟩
   rcases hown with ⟨us,k1,k2,_⟩ | ⟨_,k2,_⟩
   ·rcases k1.2 with ⟨hv,_⟩ | ⟨g,cap,cur,hv,_,hg,_⟩
    ·rw [hv] at k2;cases k2
    ·have hgb:g=b':=by rw [hv] at k2;exact Xp k2
     rw [hgb] at hg
     exact ⟨cur,hg⟩
   ·cases k2
  ·exact h.nst d q e1 xs1 b' (by rw [hd];exact m5) m2 (hrX q b' m3)) (S:=fun _=>False) r (ZU.refl w lim _) (fun _ hs=>hs.elim) hdn rfl (fun _ _=>rfl) (.inr ⟨⟨_,rfl⟩,hr0,rfl⟩) (fun i q hi hri=>?_) ?_
  (fun q b' hq=>⟨(h.ours d q b' (hrX q b' hq)).1,(h.ours d q b' (hrX q b' hq)).2,fun i j hij hx=>hij (h.dist i j d q b' hx (hrX q b' hq)).1⟩) (fun q q' b' hq hq'=>(h.dist d q d q' b' (hrX q b' hq) (hrX q' b' hq')).2)⟩
 ·obtain ⟨⟨e1,xs1⟩,hp⟩:=Y9 h hri
  rw [hd] at hp
  cases q with
  | zero => cases hp
  | succ q =>
   have hq:q≠k:=fun he=>by
    subst he
    rcases h0 with ⟨s,rfl⟩ | rfl<;>simp only [Zr,hk] at hp<;>cases hp
   refine ⟨fun e2 xs2 ho=>⟨xs2,?_,rfl⟩,?_,fun _ _=>.of rfl⟩
   ·rw [hd] at ho
    simp only [Zr,Uy,if_neg (Ne.symm hq)] at ho ⊢
    exact ho
   ·rw [hrd]
    exact if_neg (by omega)
 ·show ZN c.P w lim (Ke X d r d) _ _
  rw [Zo]
  refine ⟨b,arr,t,by rw [hr0];exact h1,h2,h3,by rw [Ud];exact h4,h5,fun y hy=>?_,fun i y u hy hu=>?_⟩
  ·rcases Ue hy with hy | rfl
   ·exact h6 y hy
   ·exact .inr (.inl ⟨_,_,_,rfl⟩)
  ·rw [Uy] at hy
   split at hy
   ·rename_i hik
    subst hik
    cases hy
    rw [hu0] at hu
    cases hu
    show ZY c.P w lim Xb D [] u0 (r (k+1))
    rw [hrd]
    dsimp only
    rw [if_pos rfl]
    exact .inr (.inr ⟨rfl,.inr (.inl ⟨hdp,hnm,hown⟩)⟩)
   ·rename_i hik
    have hri:r (i+1)=X d (i+1):=by rw [hrd];exact if_neg (by omega)
    rw [hri]
    exact h7 i y u hy hu
theorem Zkn {x y:SV} {k:Nat} {D:TypeId} (h:Zrt x k D=Xa y):∃ cs j c0,x = .box cs∧k=j+1∧cs[j]? = Xa c0∧((∃ s,c0 = .c (.slice Xb s .nil))∨c0 = .own Xc (bT D) .nil)∧y = .box (cs.set j (.own Xb D .nil)):=by
 unfold Zrt at h
 split at h
 ·rename_i cs j
  split at h
  ·rename_i s hc
   cases h
   exact ⟨cs,j,_,rfl,rfl,hc,.inl ⟨s,rfl⟩,rfl⟩
  ·rename_i e hc
   split at h
   ·rename_i he
    cases h
    subst he
    exact ⟨cs,j,_,rfl,rfl,hc,.inr rfl,rfl⟩
   ·cases h
  ·cases h
 ·cases h
theorem ZkH {P:Program} {E:Env} (hnt:E.top≤1024) {c:Ctx} (hcP:c.P=P) {s s':Tr} {n:Nat} {ρ:Nat→V} (p:Nat×Nat) {tm:Array Value} {w:World} (hs:YK E s n) (h:∃ lim X,Sim c (ZO E s ρ) tm w lim X) (hd:Zmz P E s p=Xa s') :
  YK E s' n∧∃ lim X,Sim c (ZO E s' ρ) tm w lim X:=by
 unfold Zmz at hd
 split at hd
 case h_2=>cases hd
 rename_i x _ hx
 split at hd
 case isFalse=>cases hd
 rename_i hh
 cases hd
 obtain ⟨h1,h2,h3⟩:=hh
 obtain ⟨cs,j,c0,g1,g2,g3,g4,rfl⟩:=Zkn hx
 obtain ⟨lim,X,hsim⟩:=h
 have hb:=hs p.1
 rw [g1] at hb
 have hb:∀ c∈cs,c.bd n:=hb
 have hlow:YE E [(p.1,SV.box (cs.set j (.own Xb (p.2 / 10000+2097152) .nil)))]:=by
  simp only [YE,UN,List.all_nil,Bool.and_true,decide_eq_true_eq];exact JN h1
 refine ⟨Jb hnt _ _ hlow hs fun u hu=>?_,?_⟩
 ·rw [XH.1 hu]
  intro c hc
  rcases Ue hc with hc | rfl
  ·exact hb c hc
  ·trivial
 ·rw [Jn hnt _ _ _ hlow]
  obtain ⟨X',hX'⟩:=hsim.nilDeep (d:=p.1) (k:=j) (D:=p.2 / 10000+2097152) (cs:=cs.map (BC.den ρ)) (c0:=c0.den ρ) (by show (gE E s p.1).den ρ=_;rw [g1];rfl) (by rw [Xl,g3];rfl)
   (by rcases g4 with ⟨s,rfl⟩ | rfl;exact .inl ⟨s,rfl⟩;exact .inr rfl) (by rw [hcP];exact h2) (by rw [hcP];exact h3)
  refine ⟨lim,X',?_⟩
  have:JC (ZO E s ρ) (([(p.1,SV.box (cs.set j (.own Xb (p.2 / 10000+2097152) .nil)))] : List (Nat×SV)).map fun u=>(u.1,u.2.den ρ))=upd (ZO E s ρ) p.1 (.box ((cs.map (BC.den ρ)).set j (.own Xb (p.2 / 10000+2097152) []))):=by
   simp only [Xk,XL,JC,SV.den,Uv]
   rfl
  rw [this]
  exact hX'
theorem Zfp {P:Program} {E:Env} (hnt:E.top≤1024) {c:Ctx} (hcP:c.P=P) {s:Tr} {n:Nat} {ρ:Nat→V} (p:Nat×Nat) {tm:Array Value} {w:World} (hs:YK E s n) (h:∃ lim X,Sim c (ZO E s ρ) tm w lim X) :
  YK E (K3 P E s p) n∧∃ lim X,Sim c (ZO E (K3 P E s p) ρ) tm w lim X:=by
 unfold K3
 split
 ·rename_i s' hd
  exact ZkH hnt hcP p hs h hd
 split
 ·rename_i s' hd
  exact Zh5 hnt hcP p hs h hd
 split
 ·rename_i e l hp
  split
  ·rename_i hh
   have hlow:YE E ((p.1,Z6 (gE E s p.1) p.2 Xc e l)::K9 P (gE E s) p.1 p.2 e l E.top):=by
    unfold YE
    rw [XC]
    intro u hu
    rcases Xu.1 hu with rfl | hu
    ·simpa using JN hh.1
    ·simpa using ((YS E.top u).1 hu).1
   have hl:=Jy hp (hs p.1)
   refine ⟨Jb hnt _ _ hlow hs fun u hu=>?_,?_⟩
   ·rcases Xu.1 hu with rfl | hu
    ·exact JK (hs p.1) hl
    ·rcases ((YS E.top u).1 hu).2 with ⟨_,h2⟩ | ⟨_,h2⟩ <;> rw [h2]
     ·exact hl
     ·trivial
   ·obtain ⟨lim,X,hsim⟩:=h
    rw [Jn hnt _ _ _ hlow]
    have hA:∀ u∈((K9 P (gE E s) p.1 p.2 e l E.top).map fun u=>(u.1,u.2.den ρ)),u.1≠p.1∧((ZO E s ρ u.1 = .mref p.1 p.2∧u.2 = .slice Xc (c.P.cellsOf e) (l.den ρ))∨((∃ o,ZO E s ρ u.1 = .eref p.1 p.2 o)∧u.2 = .dead)):=by
     intro u hu
     obtain ⟨v,hv,rfl⟩:=Xm.1 hu
     have hne:v.1≠p.1:=by
      intro he
      have h2:=((YS E.top v).1 hv).2
      rw [he] at h2
      rcases h2 with ⟨h2,_⟩ | ⟨⟨_,_,_,h2⟩,_⟩ <;> rw [h2] at hp<;>cases hp
     refine ⟨hne,?_⟩
     rcases ((YS E.top v).1 hv).2 with ⟨h1,h2⟩ | ⟨⟨i,s',o,h1⟩,h2⟩
     ·exact .inl ⟨by show (gE E s v.1).den ρ=_;rw [h1];rfl,by rw [h2,hcP];rfl⟩
     ·exact .inr ⟨⟨_,by show (gE E s v.1).den ρ=_;rw [h1];rfl⟩,by rw [h2];rfl⟩
    have hB:∀ i,Jl (ZO E s ρ i) p.1 p.2→i∈((K9 P (gE E s) p.1 p.2 e l E.top).map fun u=>(u.1,u.2.den ρ)).map (·.1):=by
     intro i hi
     rw [Uf]
     have hi':Jl ((gE E s i).den ρ) p.1 p.2:=hi
     have hlt:i < E.top:=by
      rcases XD i E.top with h | h
      ·exact h
      ·rw [Zat s i h] at hi'
       rcases hi' with h0 | ⟨_,h0⟩ <;> cases h0
     have hex:∃ x,(i,x)∈K9 P (gE E s) p.1 p.2 e l E.top:=by
      cases hg:gE E s i with
      | mref d' q' =>
       rw [hg] at hi'
       rcases hi' with h0 | ⟨_,h0⟩ <;> cases h0
       exact ⟨_,(YS E.top (i,_)).2 ⟨hlt,.inl ⟨hg,rfl⟩⟩⟩
      | eref d' q' a b o =>
       rw [hg] at hi'
       rcases hi' with h0 | ⟨_,h0⟩ <;> cases h0
       exact ⟨_,(YS E.top (i,_)).2 ⟨hlt,.inr ⟨⟨_,_,_,hg⟩,rfl⟩⟩⟩
      | c y => rw [hg] at hi'; rcases hi' with h0 | ⟨_, h0⟩ <;> cases y <;> cases h0
      | _ => rw [hg] at hi'; rcases hi' with h0 | ⟨_, h0⟩ <;> cases h0
     obtain ⟨x,hx⟩:=hex
     exact Xm.2 ⟨_,hx,rfl⟩
    obtain ⟨lim',hf⟩:=hsim.freeze (d:=p.1) (q:=p.2) (Kb ρ hh.2.2.1) (ZQ ρ hp) (by rw [hcP];omega) (by rw [hcP];exact hh.2.2.2) hA hB
    refine ⟨lim',X,?_⟩
    rw [Xk,Jv]
    exact hf
  ·exact ⟨hs,h⟩
 ·split
  ·rename_i x hx
   split
   ·rename_i hlt
    have hlow:YE E [(p.1,x)]:=by simpa [YE] using JN hlt
    obtain ⟨cs,k,e,l,h1,h2,h3,rfl⟩:=Zgl hx
    have hbd:=hs p.1
    rw [h1] at hbd
    refine ⟨Jb hnt _ _ hlow hs fun u hu=>?_,?_⟩
    ·rw [XH.1 hu]
     intro y hy
     rcases Ue hy with hy | rfl
     ·exact hbd y hy
     ·exact (show l.bd n from hbd (.own Xc e l) (Xj h3))
    ·obtain ⟨lim,X,hsim⟩:=h
     rw [Jn hnt _ _ _ hlow]
     have hd:ZO E s ρ p.1 = .box (cs.map (BC.den ρ)):=by show (gE E s p.1).den ρ=_;rw [h1];rfl
     obtain ⟨X',hX⟩:=hsim.loose hd (k:=k) (e:=e) (xs:=l.den ρ) (by rw [Xl,h3];rfl)
     refine ⟨lim,X',?_⟩
     have e1:(SV.box (cs.set k (.c (.slice Xc (P.cellsOf e) l)))).den ρ = .box ((cs.map (BC.den ρ)).set k (.slice Xc (c.P.cellsOf e) (l.den ρ))):=by
      rw [hcP]
      simp only [SV.den,Uv]
      rfl
     show Sim c (upd (ZO E s ρ) p.1 ((SV.box (cs.set k (.c (.slice Xc (P.cellsOf e) l)))).den ρ)) tm w lim X'
     rw [e1]
     exact hX
   ·exact ⟨hs,h⟩
  ·exact ⟨hs,h⟩
theorem ZhB {E:Env} (hnt:E.top≤1024) {c:Ctx} {used:List Nat} {s:Tr} {n:Nat} {ρ:Nat→V} (d:Nat) {tm:Array Value} {w:World} (hs:YK E s n) (h:∃ lim X,Sim c (ZO E s ρ) tm w lim X) :
  YK E (ZaZ E used s d) n∧∃ lim X,Sim c (ZO E (ZaZ E used s d) ρ) tm w lim X:=by
 unfold ZaZ
 split
 ·rename_i e l hp
  split
  ·rename_i hh
   have hlow:YE E ((d,.dead)::ZP (gE E s) d E.top):=by
    unfold YE
    rw [XC]
    intro u hu
    rcases Xu.1 hu with rfl | hu
    ·simpa using JN hh.1
    ·simpa using ((Js E.top u).1 hu).2.1
   refine ⟨Jb hnt _ _ hlow hs fun u hu=>?_,?_⟩
   ·rcases Xu.1 hu with rfl | hu
    ·trivial
    ·rw [((Js E.top u).1 hu).1];trivial
   ·obtain ⟨lim,X,hsim⟩:=h
    rw [Jn hnt _ _ _ hlow]
    have hd:Kj (ZO E s ρ) d ((ZP (gE E s) d E.top).map fun u=>(u.1,u.2.den ρ)):=JB (g:=gE E s) ρ (Zat s)
    obtain ⟨X',h1,_⟩:=hsim.freeAll (t:=d) (x:=Xb) (e:=e) (xs:=l.den ρ) (by show (gE E s d).den ρ=_;rw [hp];rfl) (.inr hd)
    exact ⟨lim,X',h1⟩
  ·exact ⟨hs,h⟩
 ·exact ⟨hs,h⟩
theorem Ze3 {P:Program} {E:Env} (hnt:E.top≤1024) {c:Ctx} (hcP:c.P=P) {id:Nat} {ops:Array Oper} {s:Tr} {n:Nat} {ρ:Nat→V} {tm:Array Value} {w:World} {lim:Nat→Nat} {X:Nat→Nat→Option Nat} (hs:YK E s n) (h:Sim c (ZO E s ρ) tm w lim X) :
  YK E (ZsS P E id ops s) n∧∃ lim X,Sim c (ZO E (ZsS P E id ops s) ρ) tm w lim X:=by
 have step1:∀ (l:List (Nat×Nat)) (s:Tr),YK E s n→(∃ lim X,Sim c (ZO E s ρ) tm w lim X)→YK E (l.foldl (K3 P E) s) n∧∃ lim X,Sim c (ZO E (l.foldl (K3 P E) s) ρ) tm w lim X:=by
  intro l
  induction l with
  | nil => exact fun s h1 h2 => ⟨h1, h2⟩
  | cons p l ih =>
   intro s h1 h2
   obtain ⟨g1,g2⟩:=Zfp hnt hcP p h1 h2
   exact ih _ g1 g2
 have step2:∀ (l:List Nat) (s:Tr),YK E s n→(∃ lim X,Sim c (ZO E s ρ) tm w lim X)→YK E (l.foldl (ZaZ E (Zii ops)) s) n∧∃ lim X,Sim c (ZO E (l.foldl (ZaZ E (Zii ops)) s) ρ) tm w lim X:=by
  intro l
  induction l with
  | nil => exact fun s h1 h2 => ⟨h1, h2⟩
  | cons p l ih =>
   intro s h1 h2
   obtain ⟨g1,g2⟩:=ZhB hnt p h1 h2
   exact ih _ g1 g2
 obtain ⟨g1,g2⟩:=step1 (E.fz id) s hs ⟨lim,X,h⟩
 exact step2 (Zui ops) _ g1 g2
section
variable {P:Program} {E:Env} {R:AV→List AV→Prop}
def Zm4 (lv:Nat) (A A':Nat→List V→Prop):Prop:=∀ i,i < lv→A' i=A i
theorem Zpa (hm:P.follows .mixedOrders=Xb) (hps:EnvSound P E) (hnt:E.top≤1024) {c:Ctx} (hcP:c.P=P) (hcn:c.nt=E.nt) (hpin:∀ d v,c.pin d=Xa v→d∈E.pins) (hgpin:∀ d b,c.gpin d=Xa b→E.nt≤d∧d < E.top) :
  ∀ (code:Code) (lv n:Nat) (s:Tr) (kn:Tr→Nat→STree) (kx:Nat→Tr→Nat→STree) (kr:Tr→Nat→STree) (A:Nat→List V→Prop) (ρ:Nat→V) (tm:Array Value) (w:World) (lim:Nat→Nat) (X:Nat→Nat→Option Nat)
   (Q:Exit→Act→World→Prop),YK E s n→(ev P E lv code s n kn kx kr).wp P R A ρ→Sim c (ZO E s ρ) tm w lim X→
   (∀ s' n' ρ' A',Zm4 lv A A'→YK E s' n'→(kn s' n').wp P R A' ρ'→∀ tm' w' lim' X',Sim c (ZO E s' ρ') tm' w' lim' X'→Q .normal ⟨tm',[]⟩ w')→
   (∀ id s' n' ρ' A',Zm4 lv A A'→YK E s' n'→(kx id s' n').wp P R A' ρ'→∀ tm' w' lim' X',Sim c (ZO E s' ρ') tm' w' lim' X'→Q (.exit id) ⟨tm',[]⟩ w')→
   (∀ s' n' ρ' A',Zm4 lv A A'→YK E s' n'→(kr s' n').wp P R A' ρ'→∀ tm' w' lim' X',Sim c (ZO E s' ρ') tm' w' lim' X'→Q .ret ⟨tm',[]⟩ w')→
   code.wp P Q ⟨tm,[]⟩ w:=by
 intro code
 induction code with
 | skip => intro lv n s kn kx kr A ρ tm w lim X Q hs h hsim hn hx hr; exact wp_skip (hn s n ρ A (fun _ _ => rfl) hs h tm w lim X hsim)
 | label l => intro lv n s kn kx kr A ρ tm w lim X Q hs h hsim hn hx hr; exact wp_label (hn s n ρ A (fun _ _ => rfl) hs h tm w lim X hsim)
 | exit id => intro lv n s kn kx kr A ρ tm w lim X Q hs h hsim hn hx hr; exact wp_exit (hx id s n ρ A (fun _ _ => rfl) hs h tm w lim X hsim)
 | ret => intro lv n s kn kx kr A ρ tm w lim X Q hs h hsim hn hx hr; exact wp_ret (hr s n ρ A (fun _ _ => rfl) hs h tm w lim X hsim)
 | seq a b iha ihb =>
  intro lv n s kn kx kr A ρ tm w lim X Q hs h hsim hn hx hr
  refine wp_seq (iha lv n s _ kx kr A ρ tm w lim X _ hs h hsim ?_ hx hr)
  intro s' n' ρ' A' hA hs' h' tm' w' lim' X' hsim'
  exact ihb lv n' s' kn kx kr A' ρ' tm' w' lim' X' Q hs' h' hsim' (fun s2 n2 ρ2 A2 hA2=>hn s2 n2 ρ2 A2 fun i hi=>(hA2 i hi).trans (hA i hi))
   (fun id s2 n2 ρ2 A2 hA2=>hx id s2 n2 ρ2 A2 fun i hi=>(hA2 i hi).trans (hA i hi)) (fun s2 n2 ρ2 A2 hA2=>hr s2 n2 ρ2 A2 fun i hi=>(hA2 i hi).trans (hA i hi))
 | cond x a b iha ihb =>
  intro lv n s kn kx kr A ρ tm w lim X Q hs h hsim hn hx hr
  simp only [ev] at h
  split at h
  ·rename_i t ht
   have hxt:x = .tmp t:=by cases x<;>simp [Z0] at ht;rw [ht]
   subst hxt
   have heval:∀ v:BE,gE E s t = .c (.bool v)→Act.eval ⟨tm,[]⟩ (.tmp t) = .bool (v.den ρ):=by
    intro v hv
    have hrel:=hsim.rel t
    have:ZO E s ρ t = .val (.bool (v.den ρ)):=by simp only [ZO,hv,SV.den,SC.den]
    rw [this] at hrel
    exact YV hrel
   split at h
   ·rename_i v hv
    have he:=heval _ hv
    simp only [BE.den] at he
    split at h
    ·rename_i hvt
     subst hvt
     exact wp_cond_true he (iha lv n s kn kx kr A ρ tm w lim X Q hs h hsim hn hx hr)
    ·rename_i hvt
     have:v=Xc:=by simpa using hvt
     subst this
     exact wp_cond_false he (ihb lv n s kn kx kr A ρ tm w lim X Q hs h hsim hn hx hr)
   ·rename_i v _ hv
    refine wp_cond_split (heval v hv) (fun hv'=>?_) fun hv'=>?_
    ·obtain ⟨hlt,hsame⟩:=WT hnt hv hv'
     exact iha lv n _ kn kx kr A ρ tm w lim X Q (Yb (x:=.c (.bool (.lit Xb))) hnt hlt hs trivial) (h.1 hv') (by rw [hsame];exact hsim) hn hx hr
    ·obtain ⟨hlt,hsame⟩:=WT hnt hv hv'
     exact ihb lv n _ kn kx kr A ρ tm w lim X Q (Yb (x:=.c (.bool (.lit Xc))) hnt hlt hs trivial) (h.2 hv') (by rw [hsame];exact hsim) hn hx hr
   ·exact h.elim
  ·exact h.elim
 | block id body ih =>
  intro lv n s kn kx kr A ρ tm w lim X Q hs h hsim hn hx hr
  refine wp_block (ih lv n s kn _ kr A ρ tm w lim X _ hs h hsim hn ?_ hr)
  intro id' s' n' ρ' A' hA hs' h' tm' w' lim' X' hsim'
  unfold Exit.inBlock
  by_cases hid:id'=id
  ·rw [if_pos hid] at h'
   simp only [hid,if_true]
   exact hn s' n' ρ' A' hA hs' h' tm' w' lim' X' hsim'
  ·rw [if_neg hid] at h'
   simp only [hid,if_false]
   exact hx id' s' n' ρ' A' hA hs' h' tm' w' lim' X' hsim'
 | scope body ih =>
  intro lv n s kn kx kr A ρ tm w lim X Q hs h hsim hn hx hr
  exact wp_scope_straight (ih lv n s kn kx kr A ρ tm w lim X _ hs h hsim hn hx hr)
 | loop body ih =>
  intro lv n s kn kx kr A ρ tm w lim X Q hs h hsim hn hx hr
  simp only [ev] at h
  split at h
  case isFalse=>exact h.elim
  rename_i hok
  split at h
  case h_2=>exact h.elim
  rename_i init hinit
  obtain ⟨I,m,h0,hround⟩:=h
  have hlen:∀ {s':Tr} {ves:List VE},Kf P (gE E s') (E.keep (Jr body))=Xa ves→(Ja (E.keep (Jr body)) 0).2=ves.length:=by
   intro s' ves hv
   have:=(Vs (P:=P) (g:=gE E s') (ρ:=ρ) _ 0 ves [] hv rfl).1
   omega
  have key:∀ (k:Nat) (vs:List V) (tm:Array Value) (w:World) (lim:Nat→Nat) (X:Nat→Nat→Option Nat),m vs < k→vs.length=init.length→I vs→
    Sim c (ZO E (Z8 (Ja (E.keep (Jr body)) 0).1 (.leaf .dead)) (bind Zhe 0 vs)) tm w lim X→Code.rounds P body Q k ⟨tm,[]⟩ w:=by
   intro k
   induction k with
   | zero => intro vs tm w lim X hlt; omega
   | succ k ihk =>
    intro vs tm w lim X hlt hlv hI hsim
    rw [rounds_succ]
    obtain ⟨k1,k2,k3,k4,k5,k6⟩:=WQ hok
    have hbd:YK E (Z8 (Ja (E.keep (Jr body)) 0).1 (.leaf .dead)) (Ja (E.keep (Jr body)) 0).2:=by
     refine Jb hnt _ _ ?_ (fun d=>?_) (Zev _ 0).2
     ·unfold YE
      rw [XC]
      intro u hu
      have h2:=(Vs (P:=P) (g:=gE E s) (ρ:=ρ) _ 0 init [] hinit rfl).2.1
      have hm:u.1∈(E.keep (Jr body)).map (·.1):=by rw [← h2];exact Xm.2 ⟨u,hu,rfl⟩
      obtain ⟨p,hp,he⟩:=Xm.1 hm
      have:=(k2 p hp).1
      rw [he] at this
      simpa using this
     ·unfold gE
      split<;>trivial
    refine ih (lv+1) _ _ _ kx kr _ (bind Zhe 0 vs) tm w lim X _ hbd (hround vs hlv hI) hsim ?_ ?_ ?_
    ·intro s' n' ρ' A' hA hs' h' tm' w' lim' X' hsim'
     split at h'
     ·rename_i vals hvals
      have hAl:A' lv=fun vs'=>I vs'∧m vs' < m vs:=by
       rw [hA lv (Uu _)]
       funext vs'
       simp only [ZsH,if_true]
      have h'':A' lv (vals.map (VE.den ρ')):=h'
      rw [hAl] at h''
      obtain ⟨hI',hm'⟩:=h''
      obtain ⟨X2,hs2⟩:=ZiC hnt hcP hcn hpin hgpin hok Zhe hvals hsim'
      exact ihk _ tm' w' lim' X2 (by omega) (by rw [Xi,← hlen hvals,hlen hinit]) hI' hs2
     ·exact h'.elim
    ·intro id s' n' ρ' A' hA hs' h' tm' w' lim' X' hsim'
     exact hx id s' n' ρ' A' (fun i hi=>by rw [hA i (by omega)];funext vs';simp only [ZsH,Nat.ne_of_lt hi,if_false]) hs' h' tm' w' lim' X' hsim'
    ·intro s' n' ρ' A' hA hs' h' tm' w' lim' X' hsim'
     exact hr s' n' ρ' A' (fun i hi=>by rw [hA i (by omega)];funext vs';simp only [ZsH,Nat.ne_of_lt hi,if_false]) hs' h' tm' w' lim' X' hsim'
  obtain ⟨X0,hs0⟩:=ZiC hnt hcP hcn hpin hgpin hok Zhe hinit hsim
  exact wp_loop_rounds _ (key (m (init.map (VE.den ρ))+1) _ tm w lim X0 (Uu _) (by rw [Xi]) h0 hs0)
 | region id ops draw =>
  intro lv n s0 kn kx kr A ρ tm w lim0 X0 Q hs0 h hsim0 hn hx hr
  simp only [ev] at h
  obtain ⟨hs,lim,X,hsim⟩:=Ze3 (P:=P) hnt hcP (id:=id) (ops:=ops) hs0 hsim0
  generalize ZsS P E id ops s0=s at h hs hsim
  split at h
  ·rename_i f hf
   split at hf
   ·exact ZgX hm hps hnt hf hcP hcn hs h hsim fun s' n' ρ'=>hn s' n' ρ' A fun _ _=>rfl
   ·cases hf
  rename_i hpn
  clear hpn
  split at h
  ·rename_i x a d T neg htest
   split at h
   case h_2=>exact h.elim
   rename_i e l hT hl
   split at h
   case isFalse=>exact h.elim
   rename_i hh
   obtain ⟨ha,hd,hma,hmd,had,hxa⟩:=hh
   obtain ⟨o,p,U,hops,hgo,hgp,h1,h2,h3,h4⟩:=Zgj htest
   obtain ⟨va,k,cap,hv,hnil⟩:=Zj9 hl (show ZZ P w lim X (ZO E s ρ) x (ZO E s ρ x) (tm.getD x undef) from hcP ▸ hsim.rel x)
   have hsz:ops.size=2:=by rw [← UX,hops];rfl
   have ho0:ops[0]? = Xa o:=by rw [← UT,hops];rfl
   have ho1:ops[1]? = Xa p:=by rw [← UT,hops];rfl
   refine wp_region ?_
   rw [hsz,show Un 2 = [0,1] from rfl,wpOps_cons]
   unfold wpOp
   simp only [ho0,Region.wanted,hgo]
   simp only [if_true]
   refine .inl (Zs (v:=.slice va k cap) (w':=w) ?_ ?_)
   ·have hev:Act.eval ⟨tm,[]⟩ (.tmp x)=tm.getD x undef:=rfl
    simp only [execOp,h1,hev,hv,Sem.run_pure]
   ·rw [wpOps_cons]
    unfold wpOp
    simp only [ho1,Region.wanted,hgp]
    simp only [if_true]
    have hea:Act.eval (Act.put ⟨tm,[]⟩ o.dst (.slice va k cap)) (.tmp a) = .slice va k cap:=by
     rw [h2]
     exact JF tm a _ (by rw [hsim.size,hcn];exact ha)
    refine .inl (Zs (v:=.bool (if neg=Xb then !va.isNone else va.isNone)) (w':=w) ?_ ?_)
    ·have hec:Act.eval (Act.put ⟨tm,[]⟩ o.dst (.slice va k cap)) (.const (.slice Xe 0 0)) = .slice Xe 0 0:=rfl
     have heq:=run_equal_slice_nil (P:=P) w T _ va k cap hT
     cases neg
     ·simp [execOp,h3,hea,hec,eqGuard,binOp,heq]
     ·simp [execOp,h3,hea,hec,eqGuard,binOp,heq]
    ·have hb:=h va.isNone hnil
     have hna:KY (ZO E s ρ a):=ZH (YB (a:=gE E s a) (b:=.dead) ρ hma)
     have hnd:KY (ZO E s ρ d):=ZH (YB (a:=gE E s d) (b:=.dead) ρ hmd)
     have s1:=hsim.put (k:=0) (x:=.dead) (v:=.slice va k cap) (by rw [hcn];exact ha) hna rfl trivial
     have s2:=s1.put (d:=d) (k:=0) (x:=.val (.bool (if neg=Xb then !va.isNone else va.isNone))) (v:=.bool (if neg=Xb then !va.isNone else va.isNone)) (by rw [hcn];exact hd) (by rw [Zf _ _ (Ne.symm had)];exact hnd) rfl (Rep.val rfl)
     have hbv:(BE.den (bind ρ n [.b va.isNone]) (if neg=Xb then .not (.var n) else .var n))=(if neg=Xb then !va.isNone else va.isNone):=by
      have hvar:bind ρ n [.b va.isNone] n = .b va.isNone:=by simp [bind]
      cases neg
      ·simp only [U5,if_false,BE.den,hvar,V.bool]
      ·simp only [if_true,BE.den,hvar,V.bool]
     have hσ:ZO E ((s.set depth a .dead).set depth d (.c (.bool (if neg=Xb then .not (.var n) else .var n)))) (bind ρ n [.b va.isNone])=upd (upd (ZO E s ρ) a .dead) d (.val (.bool (if neg=Xb then !va.isNone else va.isNone))):=by
      rw [YF hnt (JN hd),YF hnt (JN ha),ZaU hs (YG ρ n _)]
      simp only [SV.den,SC.den,hbv]
     have hs2:YK E ((s.set depth a .dead).set depth d (.c (.bool (if neg=Xb then .not (.var n) else .var n)))) (n+1):=by
      refine Yb hnt (JN hd) (Yb hnt (JN ha) (Zde hs (Nat.le_succ n)) trivial) ?_
      cases neg
      ·exact Uu n
      ·exact Uu n
     rw [h2,h4]
     show Q .normal ⟨(tm.setIfInBounds a (.slice va k cap)).setIfInBounds d (.bool (if neg=Xb then !va.isNone else va.isNone)),[]⟩ w
     exact hn _ _ _ A (fun _ _=>rfl) hs2 hb _ w lim _ (by rw [hσ];exact s2)
  ·split at h
   ·rename_i x i a b cc T htest _
    split at h
    case h_2=>exact h.elim
    rename_i e0 e l ie hT hgx hgi
    split at h
    case h_2=>exact h.elim
    rename_i inf hinf
    split at h
    case h_2=>exact h.elim
    rename_i z hz
    split at h
    case h_2=>exact h.elim
    rename_i zc sh hzc hsh
    split at h
    case h_2=>exact h.elim
    rename_i zc' hzc'
    split at h
    case isFalse=>exact h.elim
    rename_i hh
    obtain ⟨rfl,hzs,⟨h0,hnm⟩,hok⟩:=hh
    simp only [ZlX,Xx,decide_eq_true_eq] at hok
    obtain ⟨⟨hxn,han,hbn,hcn',hxa,hxb,hxc,hia,hab,hac,hbc⟩,hma,hmb,hmc⟩:=hok
    obtain ⟨r1,r2,h⟩:=h
    have r1':(0:Int)≤ie.den ρ:=r1
    have r2':ie.den ρ≤((l.den ρ).length:Int):=r2
    obtain ⟨o,p,q,r,hops,hgo,hgp,hgq,hgr,h1,h2,h3,h4,h5,h6,⟨cl,h7,h9,h10,h11⟩,h8⟩:=ZdE htest
    have hσx:ZO E s ρ x = .own Xb e (l.den ρ):=by show (gE E s x).den ρ=_;rw [hgx];rfl
    have hσi:ZO E s ρ i = .val (.int .i64 (ie.den ρ)):=by show (gE E s i).den ρ=_;rw [hgi];rfl
    have hzd:=KL ρ z.cells.toList
    rw [hzc] at hzd
    have hzr0:∀ (w:World) (lim:Nat→Nat),YC w lim (zc.map (SC.den ρ)) z.cells.toList:=fun w lim=>Kl (h:=hzd.symm)
    have hzr:∀ (w:World) (lim:Nat→Nat),YC w lim (zc'.map (SC.den ρ)) z.cells.toList:=fun w lim=>(VQ ρ _ _ _ hzc').2 w lim _ (hzr0 w lim)
    have h1z:∀ v∈z.cells.toList,v.oneCell'=Xb:=by
     intro v hv
     obtain ⟨j,hj⟩:=XU.1 hv
     have hjl:=(Xn.1 hj).1
     have hr0:=hzr0 w lim
     have hjz:j < (zc.map (SC.den ρ)).length:=by rw [hr0.1];exact hjl
     exact (hr0.2.2 j _ v (Xq hjz) hj).oneCell (hr0.2.1 _ (Xy hjz))
    obtain ⟨v2,w',X',hsl,hcl,hs',hmx⟩:=hsim.clear (x:=x) (n:=(ie.den ρ).toNat) (T:=T) (zc:=zc'.map (SC.den ρ)) hσx (by rw [hcP];exact hT) (by rw [hcP];exact hinf) hz hzs h0 hzr h1z (by omega) (by rw [hcP];exact hnm)
    rw [hcP] at hsl hcl
    have hvi:tm.getD i undef = .int .i64 (ie.den ρ):=by
     have:=hsim.rel i
     rw [hσi] at this
     exact YV (show Rep w lim _ _ from this)
    have hin:((ie.den ρ).toNat:Int)=ie.den ρ:=by omega
    rw [hin] at hsl
    have hsz:ops.size=4:=by rw [← UX,hops];rfl
    have ho0:ops[0]? = Xa o:=by rw [← UT,hops];rfl
    have ho1:ops[1]? = Xa p:=by rw [← UT,hops];rfl
    have ho2:ops[2]? = Xa q:=by rw [← UT,hops];rfl
    have ho3:ops[3]? = Xa r:=by rw [← UT,hops];rfl
    have hts:tm.size=E.nt:=by rw [hsim.size,hcn]
    refine wp_region ?_
    rw [hsz,show Un 4 = [0,1,2,3] from rfl,wpOps_cons]
    unfold wpOp
    simp only [ho0,Region.wanted,hgo]
    simp only [if_true]
    refine .inl (Zs (v:=tm.getD x undef) (w':=w) ?_ ?_)
    ·have hev:Act.eval ⟨tm,[]⟩ (.tmp x)=tm.getD x undef:=rfl
     simp only [execOp,h1,hev,Sem.run_pure]
    rw [wpOps_cons]
    unfold wpOp
    simp only [ho1,Region.wanted,hgp]
    simp only [if_true]
    have e1:Act.eval (Act.put ⟨tm,[]⟩ o.dst (tm.getD x undef)) (.tmp i) = .int .i64 (ie.den ρ):=by
     rw [h2]
     exact (ZL tm a i _ hia).trans hvi
    refine .inl (Zs (v:=.int .i64 (ie.den ρ)) (w':=w) ?_ ?_)
    ·simp only [execOp,h3,e1,Sem.run_pure]
    rw [wpOps_cons]
    unfold wpOp
    simp only [ho2,Region.wanted,hgq]
    simp only [if_true]
    have e2:Act.eval (Act.put (Act.put ⟨tm,[]⟩ o.dst (tm.getD x undef)) p.dst (.int .i64 (ie.den ρ))) (.tmp a)=tm.getD x undef:=by
     rw [h2,h4]
     exact (ZL _ b a _ hab).trans (JF tm a _ (by rw [hts];exact han))
    have e3:Act.eval (Act.put (Act.put ⟨tm,[]⟩ o.dst (tm.getD x undef)) p.dst (.int .i64 (ie.den ρ))) (.tmp b) = .int .i64 (ie.den ρ):=by
     rw [h2,h4]
     exact JF _ b _ (by show b < (tm.setIfInBounds a _).size;rw [TZ,hts];exact hbn)
    refine .inl (Zs (v:=v2) (w':=w) ?_ ?_)
    ·simp only [execOp,h5,Xv,Option.map_none,Sem.run_bind,e2,e3,hsl,Result.andThen_ok,Sem.run_pure]
    rw [wpOps_cons]
    unfold wpOp
    simp only [ho3,Region.wanted,hgr]
    simp only [if_true]
    have e4:Act.eval (Act.put (Act.put (Act.put ⟨tm,[]⟩ o.dst (tm.getD x undef)) p.dst (.int .i64 (ie.den ρ))) q.dst v2) (.tmp cc)=v2:=by
     rw [h2,h4,h6]
     exact JF _ cc _ (by show cc < ((tm.setIfInBounds a _).setIfInBounds b _).size;rw [TZ,TZ,hts];exact hcn')
    refine .inl (Zs (v:=.tuple #[]) (w':=w') ?_ ?_)
    ·simp only [execOp,h7,h9,h10,h11,resolve,invoke,builtin,Sem.run_bind,Sem.run_pure,Result.andThen_ok,UB,Xk,XL,e4,hcl]
    have hna:KY (ZO E s ρ a):=ZH (YB (a:=gE E s a) (b:=.dead) ρ hma)
    have hnb:KY (ZO E s ρ b):=ZH (YB (a:=gE E s b) (b:=.dead) ρ hmb)
    have hnc:KY (ZO E s ρ cc):=ZH (YB (a:=gE E s cc) (b:=.dead) ρ hmc)
    have s1:=hs'.put (d:=a) (k:=0) (x:=.dead) (v:=tm.getD x undef) (by rw [hcn];exact han) (by rw [Zf _ _ (Ne.symm hxa)];exact hna) rfl trivial
    have s2:=s1.put (d:=b) (k:=0) (x:=.dead) (v:=.int .i64 (ie.den ρ)) (by rw [hcn];exact hbn) (by rw [Zf _ _ (Ne.symm hab),Zf _ _ (Ne.symm hxb)];exact hnb) rfl trivial
    have s3:=s2.put (d:=cc) (k:=0) (x:=.dead) (v:=v2) (by rw [hcn];exact hcn') (by rw [Zf _ _ (Ne.symm hbc),Zf _ _ (Ne.symm hac),Zf _ _ (Ne.symm hxc)];exact hnc) rfl trivial
    have hwr:iop .sub .i64 ((l.den ρ).length:Int) (ie.den ρ)=((l.den ρ).length:Int)-ie.den ρ:=by
     show IntKind.i64.wrap _=_
     rw [U6]
     unfold maxLen at hmx
     omega
    have hlist:(LE.app (.take l ie) (.rep (.bin .sub .i64 (.len l) ie) (Zhq zc'))).den ρ=(l.den ρ).take (ie.den ρ).toNat++XG ((l.den ρ).length-(ie.den ρ).toNat) (zc'.map (SC.den ρ)):=by
     show (l.den ρ).take (ie.den ρ).toNat++XG (iop .sub .i64 ((l.den ρ).length:Int) (ie.den ρ)).toNat ((Zhq zc').den ρ)=_
     rw [hwr,Vf]
     congr 2
     omega
    have bx:(gE E s x).bd n:=hs x
    have bi:(gE E s i).bd n:=hs i
    rw [hgx] at bx
    rw [hgi] at bi
    have hσ:ZO E ((((s.set depth x (.own Xb e (.app (.take l ie) (.rep (.bin .sub .i64 (.len l) ie) (Zhq zc'))))).set depth a .dead).set depth b .dead).set depth cc .dead) ρ=upd (upd (upd (upd (ZO E s ρ) x (.own Xb e ((l.den ρ).take (ie.den ρ).toNat++XG ((l.den ρ).length-(ie.den ρ).toNat) (zc'.map (SC.den ρ))))) a .dead) b .dead) cc .dead:=by
     rw [YF hnt (JN hcn'),YF hnt (JN hbn),YF hnt (JN han),YF hnt (JN hxn)]
     simp only [SV.den,hlist]
    have hs2:YK E ((((s.set depth x (.own Xb e (.app (.take l ie) (.rep (.bin .sub .i64 (.len l) ie) (Zhq zc'))))).set depth a .dead).set depth b .dead).set depth cc .dead) n:=
     Yb hnt (JN hcn') (Yb hnt (JN hbn) (Yb hnt (JN han) (Yb hnt (JN hxn) hs ⟨⟨bx,bi⟩,⟨bx,bi⟩,WR _ (Va _ _ _ hzc' (V9 hzc))⟩) trivial) trivial) trivial
    rw [h2,h4,h6,h8]
    exact hn _ _ ρ A (fun _ _=>rfl) hs2 h _ w' lim _ (by rw [hσ];exact s3)
   ·exact Zgc hm hps hnt (fun d j=>ZsV) (fun d hd=>Wh ρ hd) hs h hcP hcn hsim fun s' n' ρ' hs' h'=>hn s' n' ρ' A (fun _ _=>rfl) hs' h'
 | _ => intro lv n s kn kx kr A ρ tm w lim X Q hs h hsim hn hx hr; exact h.elim
end
def V0 (tm:Array Value):ResultVar→Sem Value
 | .tmp t => pure (tm.getD t undef)
 | .cell a t => do loadVar t (← asAddr (tm.getD a undef))
def ZaC:ResultVar→Nat
 | .tmp _ => 0
 | .cell _ _ => 1
theorem ZjZ (fn:Func) (tm:Array Value):results fn tm=(do
  let vs ← fn.results.mapM (V0 tm)
  pure (if h:vs.size=1 then vs[0] else .tuple vs)):=by
 unfold results
 congr 1
theorem Zja {P:Program} {w:World} {f:ResultVar→Sem Value} : ∀ (rs:List ResultVar) (vs:List Value),rs.length=vs.length→
  (∀ (i:Nat) (r:ResultVar) (v:Value),rs[i]? = Xa r→vs[i]? = Xa v→(f r).run P w = .ok v w)→(rs.mapM f).run P w = .ok vs w
 | [], [], _, _ => by simp
 | [], _ :: _, h, _ => by simp at h
 | _ :: _, [], h, _ => by simp at h
 | r :: rs, v :: vs, h, hf => by
  have h1:=hf 0 r v rfl rfl
  have h2:=Zja rs vs (by simpa using h) fun i r' v' hr hv=>hf (i+1) r' v' (by simpa using hr) (by simpa using hv)
  simp [List.mapM_cons,h1,h2]
theorem Vk {P:Program} {w:World} {fn:Func} {tm:Array Value} {vs:List Value} (hl:fn.results.toList.length=vs.length)
  (hf:∀ (i:Nat) (r:ResultVar) (v:Value),fn.results.toList[i]? = Xa r→vs[i]? = Xa v→(V0 tm r).run P w = .ok v w) :
  (results fn tm).run P w = .ok (match vs with | [v]=>v | vs=>.tuple vs.toArray) w:=by
 have h:=Zja _ _ hl hf
 rw [ZjZ,Array.mapM_eq_mapM_toList]
 simp only [Sem.run_bind,Sem.run_map,h,Result.andThen_ok]
 rcases vs with _ | ⟨v,_ | ⟨u,l⟩⟩ <;> simp
section
variable {P:Program} {E:Env}
theorem Zf2 {c:Ctx} (hc:c.P=P) {s:Tr} {ρ:Nat→V} {tm:Array Value} {w:World} {lim:Nat→Nat} {X:Nat→Nat→Option Nat} (hs:Sim c (ZO E s ρ) tm w lim X) {r:ResultVar} {x:TC}
  (h:Vb P (gE E s) r=Xa x):∃ v,(V0 tm r).run P w = .ok v w∧J9 P w lim (X (Je r) (ZaC r)) (x.den ρ) v:=by
 cases r with
 | tmp t =>
  have hr:=hs.rel t
  simp only [Vb] at h
  split at h
  ·rename_i y hy
   simp only [Xf] at h
   subst h
   have:ZO E s ρ t=y.den ρ:=by simp only [ZO,hy,SV.den]
   rw [this] at hr
   exact ⟨_,rfl,by cases y<;>exact hr⟩
  ·rename_i cs hy
   simp only [Xf] at h
   subst h
   have:ZO E s ρ t = .agg (cs.map (SC.den ρ)):=by simp only [ZO,hy,SV.den]
   rw [this] at hr
   exact ⟨_,rfl,hr⟩
  ·rename_i b e xs hy
   simp only [Xf] at h
   subst h
   have:ZO E s ρ t = .own b e (xs.den ρ):=by simp only [ZO,hy,SV.den]
   rw [this,hc] at hr
   exact ⟨_,rfl,hr⟩
  ·cases h
 | cell t T =>
  have hr:=hs.rel t
  simp only [Vb] at h
  split at h
  ·rename_i cs hT hy
   split at h
   ·rename_i hl
    simp only [Xf] at h
    subst h
    have:ZO E s ρ t = .box (cs.map (BC.den ρ)):=by simp only [ZO,hy,SV.den]
    rw [this,hc] at hr
    obtain ⟨b,us,g1,g2,g3,g4,g5,g6⟩:=ZN.part (show ZN P w lim (X t) _ _ from hr) 0 (P.cellsOf T) (by simp [hl.1]) (by rw [Tn,UA (by simp [hl.1])];exact Zcm hl.2.1 ρ) (by rw [Tn,UA (by simp [hl.1])];exact V6 hl.2.2 ρ)
    refine ⟨.agg us.toArray,?_,?_⟩
    ·obtain ⟨i,hi⟩:=ZaS hT
     have hl2:=run_loadCells_list (P:=P) w ⟨b,0,Xe⟩ us (fun j v hj=>by rw [Jk];exact g4 j v hj)
     rw [g3] at hl2
     simp [V0,g2,asAddr,loadVar,Wa hT,Zv hi,hl2]
    ·have he:(TC.agg (cs.map (Zek P))).den ρ = .agg ((((cs.map (BC.den ρ)).drop 0).take (P.cellsOf T)).map (YM P)):=by
      rw [Tn,UA (by simp [hl.1])]
      simp only [TC.den,Uf]
      congr 1
      exact List.map_congr_left fun b _=>Zec P ρ b
     rw [he]
     exact .agg (by simp [g3,hl.1]) g5 g6
   ·cases h
  ·rename_i bx e xs hT hy
   simp only [Xf] at h
   subst h
   have:ZO E s ρ t = .box [.own bx e (xs.den ρ)]:=by simp only [ZO,hy,SV.den];rfl
   rw [this,hc] at hr
   obtain ⟨b,arr,ty,h1,h2,h3,h4,h5,h6,h7⟩:=(show ZN P w lim (X t) _ _ from hr)
   obtain ⟨u,hu⟩:∃ u,arr[0]? = Xa u:=⟨_,X8 (by rw [h4];simp)⟩
   refine ⟨u,?_,h7 0 _ u rfl hu⟩
   have hcell:w.cell? ⟨b,0,Xe⟩=Xa u:=by rw [Zl h3];exact hu
   simp [V0,h2,asAddr,loadVar,Vv hT,hcell]
  ·rename_i y hT hy
   simp only [Xf] at h
   subst h
   have:ZO E s ρ t = .box [y.den ρ]:=by simp only [ZO,hy,SV.den];rfl
   rw [this,hc] at hr
   obtain ⟨b,arr,ty,h1,h2,h3,h4,h5,h6,h7⟩:=(show ZN P w lim (X t) _ _ from hr)
   obtain ⟨u,hu⟩:∃ u,arr[0]? = Xa u:=⟨_,X8 (by rw [h4];simp)⟩
   have h70:=h7 0 _ u rfl hu
   refine ⟨u,?_,by cases y<;>exact h70⟩
   have hcell:w.cell? ⟨b,0,Xe⟩=Xa u:=by rw [Zl h3];exact hu
   simp [V0,h2,asAddr,loadVar,Vv hT,hcell]
  ·cases h
theorem Zgw {c:Ctx} (hc:c.P=P) {s:Tr} {ρ:Nat→V} {tm:Array Value} {w:World} {lim:Nat→Nat} {X:Nat→Nat→Option Nat} (hs:Sim c (ZO E s ρ) tm w lim X):∀ (rs:List ResultVar) (xs:List TC),
  VH P (gE E s) rs=Xa xs→∃ vs:List Value,rs.length=vs.length∧xs.length=vs.length∧∀ (i:Nat) (r:ResultVar) (v:Value),rs[i]? = Xa r→vs[i]? = Xa v→
   (V0 tm r).run P w = .ok v w∧∀ x,xs[i]? = Xa x→J9 P w lim (X (Je r) (ZaC r)) (x.den ρ) v
 | [], xs, h => by
  simp only [VH,Xf] at h
  subst h
  exact ⟨[],rfl,rfl,by simp⟩
 | r :: rs, xs, h => by
  simp only [VH] at h
  split at h
  ·rename_i x xs' hx hxs
   simp only [Xf] at h
   subst h
   obtain ⟨v,h1,h2⟩:=Zf2 hc hs hx
   obtain ⟨vs,g1,g2,g3⟩:=Zgw hc hs rs xs' hxs
   refine ⟨v::vs,by simp [g1],by simp [g2],fun i r' v' hr hv=>?_⟩
   cases i with
   | zero =>
    simp only [XK,Xf] at hr hv
    subst hr
    subst hv
    refine ⟨h1,fun y hy=>?_⟩
    simp only [XK,Xf] at hy
    subst hy
    exact h2
   | succ i =>
    obtain ⟨k1,k2⟩:=g3 i r' v' (by simpa using hr) (by simpa using hv)
    exact ⟨k1,fun y hy=>k2 y (by simpa using hy)⟩
  ·cases h
theorem Zh0 {w:World} {lim:Nat→Nat} {X:Nat→Nat→Option Nat} {σ:Nat→AV} {d:Nat} {x:TC} {ρ:Nat→V} {v:Value} (h:J9 P w lim (X d 0) (x.den ρ) v):ZZ P w lim X σ d (x.den ρ) v:=by
 cases x with
 | c y => cases y <;> exact h
 | agg cs => exact h
 | own x e l => exact h
 | gone => trivial
theorem ZeI (ρ:Nat→V):∀ (aZ:List SV) (i:Nat) (σ:Nat→AV) (d:Nat),JC σ ((V7 aZ i).map fun u=>(u.1,u.2.den ρ)) d=if i≤d∧d < i+aZ.length then ZW (aZ.map (SV.den ρ)) (d-i) else σ d
 | [], i, σ, d => by
  rw [if_neg (by simp)]
  rfl
 | a :: aZ, i, σ, d => by
  simp only [V7,Xk,JC]
  rw [ZeI ρ aZ (i+1)]
  by_cases h:i+1≤d∧d < i+1+aZ.length
  ·rw [if_pos h,if_pos (by simp only [XN];omega)]
   obtain ⟨k,hk⟩:∃ k,d-i=k+1:=⟨d-i-1,by omega⟩
   rw [hk,show d-(i+1)=k by omega]
   simp [ZW]
  ·rw [if_neg h]
   by_cases hd:d=i
   ·subst hd
    rw [ZC,if_pos (by simp)]
    simp [ZW]
   ·rw [Zf _ _ hd,if_neg (by simp only [XN];omega)]
theorem ZfZ {n:Nat} : ∀ (aZ:List SV) (i:Nat),(∀ a∈aZ,a.bd n)→∀ u∈V7 aZ i,u.2.bd n
 | [], i, _, u, hu => by simp [V7] at hu
 | a :: aZ, i, h, u, hu => by
  rcases Xu.1 hu with rfl | hu
  ·exact h a (by simp)
  ·exact ZfZ aZ (i+1) (fun b hb=>h b (by simp [hb])) u hu
theorem Zeb:∀ (aZ:List SV) (i m:Nat),i+aZ.length≤m→∀ u∈V7 aZ i,u.1 < m
 | [], i, m, _, u, hu => by simp [V7] at hu
 | a :: aZ, i, m, h, u, hu => by
  simp only [XN] at h
  rcases Xu.1 hu with rfl | hu
  ·show i < m;omega
  ·exact Zeb aZ (i+1) m (by omega) u hu
def SV.isBx:SV→Bool
 | .box _ => Xb
 | .gbox _ => Xb
 | _ => Xc
theorem Vm {a:SV} {aZ:List SV} {i:Nat} (h:JL E (a::aZ) i=Xb):JL E aZ (i+1)=Xb:=by
 cases a<;>simp only [JL,Xx,U5] at h<;>exact h.2
theorem WU:∀ (aZ:List SV) (i:Nat),JL E aZ i=Xb→∀ (j:Nat) (a:SV),aZ[j]? = Xa a→(∀ cs,a = .box cs→i+j∈E.pins)∧(a.isG=Xb↔E.nt≤i+j)
 | [], i, _, j, a, h => by simp at h
 | a :: aZ, i, hf, j, b, h => by
  cases j with
  | zero =>
   simp only [XK,Xf] at h
   subst h
   refine ⟨fun cs e=>?_,?_⟩
   ·subst e
    simp only [JL,Xx,List.contains_iff_mem] at hf
    exact hf.1.2
   ·cases a<;>simp only [JL,Xx,decide_eq_true_eq,U5] at hf<;>simp only [SV.isG,U5,false_iff,true_iff]<;>omega
  | succ j =>
   have:=WU aZ (i+1) (Vm hf) j b (by simpa using h)
   rw [show i+(j+1)=i+1+j by omega]
   exact this
theorem Zju (g:Nat→SV):∀ (aZ:List SV) (i j:Nat),(Kg g aZ i)[j]? = (aZ[j]?).map fun a=>if a.isBx=Xb then g (i+j) else .dead
 | [], i, j => by simp [Kg]
 | a :: aZ, i, 0 => by cases a <;> rfl
 | a :: aZ, i, j + 1 => by
  have:=Zju g aZ (i+1) j
  rw [show i+1+j=i+(j+1) by omega] at this
  cases a<;>simpa [Kg] using this
theorem Zgb (g:Nat→SV):∀ (aZ:List SV) (i:Nat),(Kg g aZ i).length=aZ.length
 | [], i => rfl
 | a :: aZ, i => by cases a <;> simp [Kg, Zgb g aZ]
def ZfP (args:List SV) (rs:List ResultVar) (i k:Nat):Option (Nat×Nat):=
 if i < args.length then (if (args[i]?).map SV.isBx=Xa Xb then Xa (i,k) else Xe)
 else if i=args.length then
  match rs with
  | [r] => if k = 0 then Xa (Je r, ZaC r) else Xe
  | rs => match k with | 0 => Xe | k + 1 => (rs[k]?).map fun r => (Je r, ZaC r)
 else Xe
theorem ZjP:∀ (rs:List ResultVar),(rs.map Je).Nodup→∀ (i j:Nat) (a b:ResultVar),rs[i]? = Xa a→rs[j]? = Xa b→Je a=Je b→i=j
 | [], _, i, j, a, b, h, _, _ => by simp at h
 | r :: rs, hn, i, j, a, b, ha, hb, he => by
  rw [Xk,X7] at hn
  cases i with
  | zero =>
   cases j with
   | zero => rfl
   | succ j =>
    simp only [XK,Xf] at ha
    subst ha
    exact (hn.1 (Xm.2 ⟨b,Xj (by simpa using hb),he.symm⟩)).elim
  | succ i =>
   cases j with
   | zero =>
    simp only [XK,Xf] at hb
    subst hb
    exact (hn.1 (Xm.2 ⟨a,Xj (by simpa using ha),he⟩)).elim
   | succ j => rw [ZjP rs hn.2 i j a b (by simpa using ha) (by simpa using hb) he]
theorem ZbR {args:List SV} {rs:List ResultVar} {k:Nat} {p:Nat×Nat} (h:ZfP args rs args.length k=Xa p) :
  ∃ j r,rs[j]? = Xa r∧p=(Je r,ZaC r)∧((rs.length=1∧j=0∧k=0)∨(rs.length≠1∧k=j+1)):=by
 unfold ZfP at h
 rw [if_neg (U7 _),if_pos rfl] at h
 split at h
 ·rename_i r
  split at h
  ·rename_i hk
   simp only [Xf] at h
   exact ⟨0,r,rfl,h.symm,.inl ⟨rfl,rfl,hk⟩⟩
  ·cases h
 ·rename_i hne
  split at h
  ·cases h
  ·rename_i k
   cases hr:rs[k]? with
   | none => simp [hr] at h
   | some r =>
    simp only [hr,Xv,Xf] at h
    refine ⟨k,r,hr,h.symm,.inr ⟨fun h1=>?_,rfl⟩⟩
    obtain ⟨r',hr'⟩:=U9.1 h1
    exact hne r' hr'
theorem Zo2 {args:List SV} {rs:List ResultVar} (hf:Za4 args rs=Xb) {i k i' k':Nat} {p:Nat×Nat} (h:ZfP args rs i k=Xa p) (h':ZfP args rs i' k'=Xa p):i=i'∧k=k':=by
 simp only [Za4,Xx] at hf
 obtain ⟨hn,hb⟩:=hf
 have hnd:=Y3 _ hn
 have hform:∀ i k p,ZfP args rs i k=Xa p→(i < args.length∧p=(i,k)∧∃ a,args[i]? = Xa a∧a.isBx=Xb)∨i=args.length:=by
  intro i k p h
  unfold ZfP at h
  split at h
  ·rename_i hi
   split at h
   ·rename_i hbx
    simp only [Xf] at h
    obtain ⟨a,ha,hax⟩:=X9.1 hbx
    exact .inl ⟨hi,h.symm,a,ha,hax⟩
   ·cases h
  ·split at h
   ·rename_i hi;exact .inr hi
   ·cases h
 have hno:∀ (j:Nat) (r:ResultVar),rs[j]? = Xa r→∀ a,args[Je r]? = Xa a→a.isBx=Xb→False:=by
  intro j r hr a ha hax
  rw [XC] at hb
  have:=hb r (Xj hr)
  rw [ha] at this
  cases a<;>simp [SV.isBx] at hax<;>cases this
 rcases hform i k p h with ⟨h1,h2,a,h3,h4⟩ | h1<;>rcases hform i' k' p h' with ⟨h1',h2',a',h3',h4'⟩ | h1'
 ·rw [h2] at h2'
  simp only [Xo] at h2'
  exact h2'
 ·subst h1'
  obtain ⟨j,r,g1,g2,_⟩:=ZbR h'
  rw [h2] at g2
  simp only [Xo] at g2
  exact (hno j r g1 a (by rw [← g2.1];exact h3) h4).elim
 ·subst h1
  obtain ⟨j,r,g1,g2,_⟩:=ZbR h
  rw [h2'] at g2
  simp only [Xo] at g2
  exact (hno j r g1 a' (by rw [← g2.1];exact h3') h4').elim
 ·subst h1
  subst h1'
  obtain ⟨j,r,g1,g2,g3⟩:=ZbR h
  obtain ⟨j',r',g1',g2',g3'⟩:=ZbR h'
  rw [g2] at g2'
  simp only [Xo] at g2'
  have:=ZjP rs hnd j j' r r' g1 g1' g2'.1
  refine ⟨rfl,?_⟩
  omega
end
def Zon (P:Program) (rec:TypeId→Bool) (e:Nat):List Field→Nat→Bool
 | [], _ => Xb
 | f :: fs, off => (f.name != "_") && (f.offset == off) &&
  (match P.underlying f.type with
   | some (.int _) => Xb
   | some .bool => Xb
   | some (.struct _) => rec f.type && (P.info? f.type).isSome
   | _ => Xc) &&
  (match YL P e f.type with | some l=>(P.cellsOf f.type == l.length)&&Zon P rec e fs (off+l.length) | none=>Xc)
def Zj7 (P:Program):Nat→TypeId→Bool
 | 0, _ => Xc
 | e + 1, T =>
  match P.underlying T with
  | some (.struct fs) => Zon P (Zj7 P e) e fs.toList 0 && !P.stoodInHeld T
  | _ => Xc
def Zsb (P:Program) (T:TypeId):Bool:=Zj7 P 8 T&&!P.eqGuardType P.depth T
theorem Wl:∀ (L1 L2:List Sh) (us:List Value),Y4 (L1++L2) us→Y4 L1 (us.take L1.length)∧Y4 L2 (us.drop L1.length)∧(us.take L1.length).length=L1.length
 | [], L2, us, h => ⟨by simp [Y4], by simpa using h, by simp⟩
 | s :: L1, L2, [], h => by cases s <;> exact h.elim
 | s :: L1, L2, u :: us, h => by
  cases s<;>cases u<;>try exact h.elim
  ·obtain ⟨h1,h2,h3⟩:=Wl L1 L2 us h.2
   exact ⟨⟨h.1,h1⟩,h2,by simpa using h3⟩
  ·obtain ⟨h1,h2,h3⟩:=Wl L1 L2 us h
   exact ⟨h1,h2,by simpa using h3⟩
theorem ZhS:∀ (L:List Sh) (a c b d:List Value),Y4 L a→Y4 L c→eqV (a++b) (c++d)=(eqV a c&&eqV b d)
 | [], [], [], b, d, _, _ => by simp [eqV]
 | [], _ :: _, _, _, _, h, _ => h.elim
 | [], [], _ :: _, _, _, _, h => h.elim
 | s :: L, [], _, _, _, h, _ => by cases s <;> exact h.elim
 | s :: L, _ :: _, [], _, _, _, h => by cases s <;> exact h.elim
 | s :: L, x :: a, y :: c, b, d, h, h' => by
  cases s<;>cases x<;>(try exact h.elim)<;>cases y<;>try exact h'.elim
  ·simp only [X6,eqV,ZhS L a c b d h.2 h'.2,Bool.and_assoc]
  ·simp only [X6,eqV,ZhS L a c b d h h',Bool.and_assoc]
section
variable {P:Program}
def Zqb (P:Program) (e k:Nat) (T:TypeId):Prop:=∀ (L:List Sh) (us vs:List Value) (w:World),YL P e T=Xa L→Y4 L us→Y4 L vs→
 (Op.equalIn (k+e) T (.agg us.toArray) (.agg vs.toArray)).run P w = .ok (eqV us vs) w
theorem Zci (e k:Nat) (rec:TypeId→Bool) (hrec:∀ T,rec T=Xb→Zqb P e k T) (w:World) (us vs:List Value):∀ (fs:List Field) (n:Nat) (L:List Sh),Zon P rec e fs n=Xb→
  fs.foldr (fun f acc=>match YL P e f.type,acc with | some a,Xa b=>Xa (a++b) | _,_=>Xe) (Xa [])=Xa L→Y4 L (us.drop n)→Y4 L (vs.drop n)→
  (Op.eqFields (k+e) us.toArray vs.toArray fs).run P w = .ok (eqV (us.drop n) (vs.drop n)) w
 | [], n, L, _, hL, hu, hv => by
  simp only [List.foldr_nil,Xf] at hL
  subst hL
  cases h:us.drop n with
  | nil => simp [Op.eqFields, eqV]
  | cons x l => rw [h] at hu; exact hu.elim
 | f :: fs, n, L, hf, hL, hu, hv => by
  simp only [Zon,Xx,bne_iff_ne,ne_eq,beq_iff_eq] at hf
  obtain ⟨⟨⟨hname,hoff⟩,hty⟩,hrest⟩:=hf
  simp only [List.foldr_cons] at hL
  split at hL
  case h_2=>cases hL
  rename_i a L' ha hL'
  simp only [Xf] at hL
  subst hL
  rw [ha] at hrest
  simp only [Xx,beq_iff_eq] at hrest
  obtain ⟨hcells,hrest⟩:=hrest
  obtain ⟨u1,u2,u3⟩:=Wl a L' _ hu
  obtain ⟨v1,v2,v3⟩:=Wl a L' _ hv
  rw [Ta] at u2 v2
  have ih:=Zci e k rec hrec w us vs fs (n+a.length) L' hrest hL' u2 v2
  have hus:us.drop n=(us.drop n).take a.length++us.drop (n+a.length):=by
   rw [← Ta,UI]
  have hvs:vs.drop n=(vs.drop n).take a.length++vs.drop (n+a.length):=by
   rw [← Ta,UI]
  have hev:eqV (us.drop n) (vs.drop n)=(eqV ((us.drop n).take a.length) ((vs.drop n).take a.length)&&eqV (us.drop (n+a.length)) (vs.drop (n+a.length))):=by
   rw [hus,hvs]
   have:=ZhS a ((us.drop n).take a.length) ((vs.drop n).take a.length) (us.drop (n+a.length)) (vs.drop (n+a.length)) u1 v1
   rw [← hus,← hvs] at this ⊢
   exact this
  rw [hev]
  -- the field's value
  suffices hx:∃ x y,(part f.type us.toArray f.offset).run P w = .ok x w∧(part f.type vs.toArray f.offset).run P w = .ok y w∧(Op.equalIn (k+e) f.type x y).run P w = .ok (eqV ((us.drop n).take a.length) ((vs.drop n).take a.length)) w by
   obtain ⟨x,y,p1,p2,p3⟩:=hx
   simp only [Op.eqFields,hname,ne_eq,not_false_eq_true,if_true,Sem.run_bind,p1,p2,p3,Result.andThen_ok,Sem.run_ite]
   cases h:eqV ((us.drop n).take a.length) ((vs.drop n).take a.length)
   ·simp
   ·simpa using ih
  have he:∃ e',e=e'+1:=by
   cases e with
   | zero => simp [YL] at ha
   | succ e' => exact ⟨e', rfl⟩
  obtain ⟨e',rfl⟩:=he
  have one:∀ (l:List Value),((l.drop n).take 1).length=1→∃ x,(l.drop n).take 1 = [x]∧l[n]? = Xa x:=by
   intro l hl
   cases h:l.drop n with
   | nil => rw [h] at hl; simp at hl
   | cons x r =>
    refine ⟨x,rfl,?_⟩
    have:=congrArg (fun l=>l[0]?) h
    simpa using this
  split at hty
  ·rename_i kk hk
   have ha':a = [.int kk]:=by
    simp only [YL,hk,Xf] at ha
    exact ha.symm
   subst ha'
   obtain ⟨x,x1,x2⟩:=one us u3
   obtain ⟨y,y1,y2⟩:=one vs v3
   simp only [XN,Up,XM] at u1 v1 ⊢
   rw [x1] at u1 ⊢
   rw [y1] at v1 ⊢
   cases x<;>try exact u1.elim
   cases y<;>try exact v1.elim
   obtain ⟨rfl,_⟩:=u1
   obtain ⟨rfl,_⟩:=v1
   have p1:∀ (l:List Value) (x:Value),l[n]? = Xa x→(part f.type l.toArray f.offset).run P w = .ok x w:=by
    intro l x h
    rw [hoff]
    have:l.toArray[n]? = Xa x:=by simpa using h
    simp [part,isAgg,run_underlying hk,this]
   refine ⟨_,_,p1 us _ x2,p1 vs _ y2,?_⟩
   rw [show k+(e'+1)=(k+e')+1 from rfl,run_equalIn_int w (k+e') f.type _ _ _ _ hk]
   simp [eqV]
  ·rename_i hk
   have ha':a = [.bool]:=by
    simp only [YL,hk,Xf] at ha
    exact ha.symm
   subst ha'
   obtain ⟨x,x1,x2⟩:=one us u3
   obtain ⟨y,y1,y2⟩:=one vs v3
   simp only [XN,Up,XM] at u1 v1 ⊢
   rw [x1] at u1 ⊢
   rw [y1] at v1 ⊢
   cases x<;>try exact u1.elim
   cases y<;>try exact v1.elim
   have p1:∀ (l:List Value) (x:Value),l[n]? = Xa x→(part f.type l.toArray f.offset).run P w = .ok x w:=by
    intro l x h
    rw [hoff]
    have:l.toArray[n]? = Xa x:=by simpa using h
    simp [part,isAgg,run_underlying hk,this]
   refine ⟨_,_,p1 us _ x2,p1 vs _ y2,?_⟩
   rw [show k+(e'+1)=(k+e')+1 from rfl,run_equalIn_bool' w (k+e') f.type _ _ hk]
   simp [eqV]
  ·rename_i gs hk
   rw [Xx] at hty
   obtain ⟨inf,hinf⟩:=Option.isSome_iff_exists.1 hty.2
   have hsz:P.cellsOf f.type=inf.size:=ZI hinf
   have p1:∀ (l:List Value),(part f.type l.toArray f.offset).run P w = .ok (.agg ((l.drop n).take a.length).toArray) w:=by
    intro l
    rw [hoff]
    have hag:(isAgg f.type).run P w = .ok Xb w:=by simp [isAgg,run_underlying hk]
    have:l.toArray.extract n (n+inf.size)=((l.drop n).take a.length).toArray:=by
     apply XR.1
     rw [Array.toList_extract]
     simp [List.extract_eq_take_drop,← hcells,hsz]
    rw [← hsz,hcells] at this
    simp [part,hag,Zv hinf,← hsz,hcells]
   exact ⟨_,_,p1 us,p1 vs,hrec f.type hty.1 a _ _ w ha u1 v1⟩
  ·cases hty
theorem Zmg:∀ (e k:Nat) (T:TypeId),Zj7 P e T=Xb→Zqb P e k T
 | 0, _, _, h => by simp [Zj7] at h
 | e + 1, k, T, h => by
  intro L us vs w hL hu hv
  unfold Zj7 at h
  split at h
  ·rename_i fs hfs
   simp only [Xx,UK] at h
   have hfo:P.fieldsOf T=fs:=by simp only [Program.fieldsOf,hfs]
   rw [show k+(e+1)=(k+e)+1 from rfl,run_equalIn_struct w (k+e) T _ _ (by rw [hfo];exact hfs) h.2,hfo]
   have:=Zci e k (Zj7 P e) (fun T' h'=>Zmg e k T' h') w us vs fs.toList 0 L h.1 (by
    rw [YL] at hL
    simp only [hfs] at hL
    exact hL) (by simpa using hu) (by simpa using hv)
   simpa using this
  ·cases h
theorem ZnO {plain:List TypeId} (h:plain.all (Zsb P)=Xb):Wm P plain:=by
 intro T hT
 rw [XC] at h
 have hf:=h T hT
 unfold Zsb at hf
 simp only [Xx,UK] at hf
 exact ⟨hf.2,fun L hL us vs hu hv w=>Zmg 8 9992 T hf.1 L us vs w hL hu hv⟩
end
def Zsv (l:List V):Nat→V:=fun n=>(l[n]?).getD (.i 0)
abbrev I (z:Int):AV:=.val (.int .i64 z)
abbrev B (b:Bool):AV:=.val (.bool b)
theorem Zm0 {z:Int} (h1 : -(2^63:Int)≤z) (h2:z < 2^63):IntKind.i64.wrap z=z:=by
 have e:(2:Int)^63=9223372036854775808:=by decide
 rw [e] at h1 h2
 simp only [IntKind.wrap]
 have:IntKind.i64.signed=Xb:=rfl
 simp [this,IntKind.bits]
 omega
theorem Zni {a b:Int} (h1 : -(2^63:Int)≤a+b) (h2:a+b < 2^63):iop .add .i64 a b=a+b:=Zm0 h1 h2
theorem ZhN {a b:Int} (h1 : -(2^63:Int)≤a-b) (h2:a-b < 2^63):iop .sub .i64 a b=a-b:=Zm0 h1 h2
theorem Zm3 (a b:Int):(cop .lss a b=Xb)=(a < b):=by simp [cop]
theorem Zm1 (a b:Int):(cop .lss a b=Xc)=(b≤a):=by simp [cop]
theorem ZmK (a b:Int):(cop .leq a b=Xb)=(a≤b):=by simp [cop]
theorem Zk4 (a b:Int):(cop .leq a b=Xc)=(b < a):=by simp [cop]
theorem Zny (a b:Int):(cop .gtr a b=Xb)=(b < a):=by simp [cop]
theorem Zmd (a b:Int):(cop .gtr a b=Xc)=(a≤b):=by simp [cop]
theorem Zml (a b:Int):(cop .geq a b=Xb)=(b≤a):=by simp [cop]
theorem Zm7 (a b:Int):(cop .geq a b=Xc)=(a < b):=by simp [cop]
theorem Znq (a b:Int):(cop .eql a b=Xb)=(a=b):=by simp [cop]
theorem Zmp (a b:Int):(cop .eql a b=Xc)=(a≠b):=by simp [cop]
theorem ZmT (a b:Int):(cop .neq a b=Xb)=(a≠b):=by simp [cop]
theorem Zm8 (a b:Int):(cop .neq a b=Xc)=(a=b):=by simp [cop]
def TyR (P:Program):Nat→TypeId→List AV→Prop
 | 0, _, _ => False
 | d + 1, T, cs =>
  match P.underlying T with
  | some (.int k) => ∃ z, cs = [.val (.int k z)] ∧ (Lit.int k z).wf = Xb
  | some .bool => ∃ b, cs = [.val (.bool b)]
  | some .string => ∃ s, cs = [.val (.string s)]
  | some (.slice e) => ∃ xs : List (List AV), cs = [.slice Xc (P.cellsOf e) xs] ∧ xs.length ≤ maxLen ∧ ∀ x ∈ xs, TyR P d e x
  | some (.struct fs) => ∃ parts : List (List AV), cs = parts.flatten ∧ parts.length = fs.size ∧ ∀ (i : Nat) (f : Field) (p : List AV), fs[i]? = Xa f → parts[i]? = Xa p → TyR P d f.type p
  | _ => False
def ZbK (P:Program):Nat→TypeId→Bool
 | 0, _ => Xc
 | d + 1, T =>
  match P.underlying T with
  | some (.int _) => Xb
  | some .bool => Xb
  | some .string => Xb
  | some (.slice e) => ZbK P d e && decide (0 < P.cellsOf e)
  | some (.struct fs) => (fs.toList.all fun f => ZbK P d f.type) && decide (P.cellsOf T = (fs.toList.map fun f => P.cellsOf f.type).sum) &&
    (fs.toList.zipIdx.all fun p=>decide (p.1.offset=((fs.toList.take p.2).map fun f=>P.cellsOf f.type).sum))
  | _ => Xc
def VB (w:World):Nat→Nat:=fun b=>match w.heap[b]? with | some (.cells c _ _)=>c.size | _=>0
theorem Zmh {w:World} {b o:Nat} {u:Value} (h:w.cell? ⟨b,o,Xe⟩=Xa u):o < VB w b:=by
 unfold World.cell? at h
 unfold VB
 split at h
 ·rename_i c t fr hc
  have h':c[o]? = Xa u:=by simpa using h
  have hc':w.heap[b]? = Xa (.cells c t fr):=hc
  rw [hc']
  exact (Ua.1 h').1
 ·cases h
theorem YC.flat {w:World} {lim:Nat→Nat} : ∀ (aZ:List (List AV)) (us:List (List Value)),aZ.length=us.length→(∀ (i:Nat) (a:List AV) (u:List Value),aZ[i]? = Xa a→us[i]? = Xa u→YC w lim a u)→YC w lim aZ.flatten us.flatten
 | [], [], _, _ => YC.nil w lim
 | [], _ :: _, h, _ => by simp at h
 | _ :: _, [], h, _ => by simp at h
 | a :: aZ, u :: us, h, hr => by
  have h1:=hr 0 a u rfl rfl
  have h2:=YC.flat aZ us (by simpa using h) fun i a' u' ha hu=>hr (i+1) a' u' (by simpa using ha) (by simpa using hu)
  refine ⟨by simp [h1.1,h2.1],fun c hc=>?_,fun i c v hc hv=>?_⟩
  ·rw [Uo,Xs] at hc
   rcases hc with hc | hc
   ·exact h1.2.1 c hc
   ·exact h2.2.1 c hc
  ·rw [Uo] at hc hv
   by_cases hi:i < a.length
   ·rw [XE hi] at hc
    rw [XE (by rw [← h1.1];exact hi)] at hv
    exact h1.2.2 i c v hc hv
   ·rw [XB (by omega)] at hc
    rw [XB (by rw [← h1.1];omega),← h1.1] at hv
    exact h2.2.2 _ c v hc hv
theorem Zp3 {α:Type} : ∀ (ns:List Nat) (cs:List α),cs.length=ns.sum→∃ ps:List (List α),ps.length=ns.length∧ps.flatten=cs∧∀ (i:Nat) (n:Nat),ns[i]? = Xa n→ps[i]? = Xa ((cs.drop (ns.take i).sum).take n)
 | [], cs, h => ⟨[], rfl, by simp at h; simp [h], by simp⟩
 | n :: ns, cs, h => by
  obtain ⟨ps,h1,h2,h3⟩:=Zp3 ns (cs.drop n) (by simp only [List.sum_cons] at h;simp;omega)
  refine ⟨cs.take n::ps,by simp [h1],by rw [Uo,h2,UI],fun i m hi=>?_⟩
  cases i with
  | zero => simp at hi; subst hi; simp
  | succ i =>
   have:=h3 i m (by simpa using hi)
   simp only [Ul,this,List.take_succ_cons,List.sum_cons,Ta]
theorem WK {β:Type} {Q:Nat→β→Prop} : ∀ (n:Nat),(∀ i,i < n→∃ b,Q i b)→∃ l:List β,l.length=n∧∀ (i:Nat) (b:β),l[i]? = Xa b→Q i b
 | 0, _ => ⟨[], rfl, by simp⟩
 | n + 1, h => by
  obtain ⟨l,h1,h2⟩:=WK n fun i hi=>h i (by omega)
  obtain ⟨b,hb⟩:=h n (by omega)
  refine ⟨l++[b],by simp [h1],fun i c hc=>?_⟩
  by_cases hi:i < l.length
  ·rw [XE hi] at hc
   exact h2 i c hc
  ·rw [XB (by omega)] at hc
   have h0:i-l.length=0:=by
    have:=(Xn.1 hc).1
    simp at this
    omega
   rw [h0] at hc
   simp only [XK,Xf] at hc
   subst hc
   have:i=n:=by omega
   rw [this]
   exact hb
theorem Zez {s:Nat} {cell:Nat→Option Value} : ∀ (l:List (List Value)) (o:Nat),(∀ (i:Nat) (us:List Value),l[i]? = Xa us→us.length=s∧∀ (k:Nat) (u:Value),us[k]? = Xa u→cell (o+i*s+k)=Xa u)→
  ∀ (j:Nat) (u:Value),l.flatten[j]? = Xa u→cell (o+j)=Xa u
 | [], o, _, j, u, h => by simp at h
 | us :: l, o, h, j, u, hj => by
  obtain ⟨h1,h2⟩:=h 0 us rfl
  rw [Uo] at hj
  by_cases hlt:j < us.length
  ·rw [XE hlt] at hj
   have:=h2 j u hj
   simpa using this
  ·rw [XB (by omega)] at hj
   have:=Zez l (o+s) (fun i us' hi=>by
    obtain ⟨g1,g2⟩:=h (i+1) us' (by simpa using hi)
    refine ⟨g1,fun k u' hk=>?_⟩
    have:=g2 k u' hk
    rw [XT,Nat.one_mul] at this
    rw [show o+s+i*s+k=o+(i*s+s)+k by omega]
    exact this) (j-us.length) u hj
   rw [show o+s+(j-us.length)=o+j by omega] at this
   exact this
theorem Zj0 {H:Type} {f:Func} {s:ChangeSpec} {apart fresh handsOn again:Bool} {W W':World} {args:Array Value} {v:Value} {ds gs:List (DataW H)} {before pa:List MemPlace} {P:Program} {enc:TypeId×Value→H}
  (hW:DataW.Whole enc P f.params.toList s.vars apart W args.toList ds gs before)
  (hres:∀ (b:Nat) (sp:Nat→Bool) (hd:Bool),DataW.TrodAll enc P W' b sp hd f.resultTypes.toList (v.resultList f.resultTypes.size) (s.fn H (ds++gs)).results [])
  (hargs:∀ sp:Nat→Bool,(∀ p∈before,sp p.block=Xb)→DataW.TrodAll enc P W' 0 sp Xb f.params.toList args.toList (s.fn H (ds++gs)).args pa)
  (hvars:∀ sp:Nat→Bool,(∀ p∈before,sp p.block=Xb)→DataW.TrodVars enc P W' sp s.vars (s.fn H (ds++gs)).vars [])
  (hps:before=pa++[]) (hk:W.keptBut W' (·∈before)) (hfz:∀ a:Addr,a.block < W.heap.size→W'.frozen? a=W.frozen? a)
  (hok:∀ (j:Nat) (t:TypeId) (r:Value),f.resultTypes[j]? = Xa t→(v.resultList f.resultTypes.size)[j]? = Xa r→Value.okWide P W' .any 0 t r) :
  s.post enc P f apart fresh handsOn again W args v W':=by
 have hin:∀ p∈before,p.block < W.heap.size:=fun p hp=>hW.lt p hp
 have hdec:∀ p∈before,(fun b=>decide (b < W.heap.size)) p.block=Xb:=fun p hp=>decide_eq_true (hin p hp)
 refine ⟨ds,gs,before,[],pa,[],hW,hres _ _ _,hargs _ hdec,hvars _ hdec,World.keptBut_mono (fun p hp=>⟨hp,?_⟩) hk,fun _=>?_⟩
 ·refine Or.inr (Or.inl ?_)
  rwa [hps,Us] at hp
 ·have hWp:=hW
  obtain ⟨_,_,_,_,_,hz,hn⟩:=hWp
  refine ⟨hok,_,_,([]++pa)++[],⟨[]++pa,[],ChangeShapes.trodAll_append (hargs _ fun _ _=>rfl) (hres _ _ _),hvars _ fun _ _=>rfl,rfl,?_,?_⟩,?_⟩
  ·intro b off hp
   have hmem:MemPlace.cell b off∈before:=by rw [hps];simpa using hp
   rw [hfz _ (hin _ hmem)]
   exact hz b off hmem
  ·intro ha
   have h1:=hn ha
   rw [hps] at h1
   simpa using h1
  ·intro p hp _
   rw [hps]
   simpa using hp
section
variable {P:Program} {H:Type} {enc:TypeId×Value→H} {w:World} {sp:Nat→Bool} {held:Bool}
theorem Zhx:∀ (d n:Nat) (T:TypeId) (cs:List Value) (x:DataW H×List MemPlace),ZbK P d T=Xb→DataW.trod enc P w 0 sp held n T cs=Xa x→∃ avs,TyR P d T avs∧YC w (VB w) avs cs
 | 0, n, T, cs, x, hf, _ => by simp [ZbK] at hf
 | d + 1, n, T, cs, x, hf, h => by
  simp only [ZbK] at hf
  split at hf
  ·rename_i k hk
   obtain ⟨z,rfl,_,hw⟩:=DataW.trod_int hk h
   refine ⟨[.val (.int k z)],?_,rfl,by simp [AV.isCell],fun i c u hc hu=>?_⟩
   ·simp only [TyR,hk];exact ⟨z,rfl,hw⟩
   ·cases i with
    | zero => simp at hc hu; subst hc; subst hu; exact .val rfl
    | succ i => simp at hc
  ·rename_i hk
   obtain ⟨b,rfl,_⟩:=DataW.trod_bool hk h
   refine ⟨[.val (.bool b)],?_,rfl,by simp [AV.isCell],fun i c u hc hu=>?_⟩
   ·simp only [TyR,hk];exact ⟨b,rfl⟩
   ·cases i with
    | zero => simp at hc hu; subst hc; subst hu; exact .val rfl
    | succ i => simp at hc
  ·rename_i hk
   obtain ⟨s,rfl,_⟩:=DataW.trod_string hk h
   refine ⟨[.val (.string s)],?_,rfl,by simp [AV.isCell],fun i c u hc hu=>?_⟩
   ·simp only [TyR,hk];exact ⟨s,rfl⟩
   ·cases i with
    | zero => simp at hc hu; subst hc; subst hu; exact .val rfl
    | succ i => simp at hc
  ·rename_i e hk
   simp only [Xx,decide_eq_true_eq] at hf
   rcases DataW.trod_slice hk h with ⟨rfl,_⟩ | ⟨a,len,cap,W1,rest,m,_,rfl,_,_,hlc,hcm,hel,hcells,_,_⟩
   ·refine ⟨[.slice Xc (P.cellsOf e) []],?_,rfl,by simp [AV.isCell],fun i c u hc hu=>?_⟩
    ·simp only [TyR,hk];exact ⟨[],rfl,by simp,by simp⟩
    ·cases i with
     | zero => simp at hc hu; subst hc; subst hu; exact .sliceN
     | succ i => simp at hc
   ·obtain ⟨l,hl1,hl2⟩:=WK (Q:=fun i (p:List Value×List AV)=>w.cells? 0 (a.add (i*P.cellsOf e)) (P.cellsOf e)=Xa p.1∧TyR P d e p.2∧YC w (VB w) p.2 p.1) len fun i hi=>by
     have h1:=hcells i hi
     obtain ⟨y,hy⟩:∃ y,W1[i]? = Xa y:=⟨_,Xq (by omega)⟩
     rw [hy,Option.bind_eq_some_iff] at h1
     obtain ⟨us,h2,h3⟩:=h1
     obtain ⟨avs,h4,h5⟩:=Zhx d m e us y hf.1 h3
     exact ⟨(us,avs),h2,h4,h5⟩
    have hall:∀ p∈l,TyR P d e p.2∧YC w (VB w) p.2 p.1∧p.1.length=P.cellsOf e:=by
     intro p hp
     obtain ⟨i,hi⟩:=XU.1 hp
     obtain ⟨g1,g2,g3⟩:=hl2 i p hi
     exact ⟨g2,g3,(World.cells?_some g1).2.1⟩
    refine ⟨[.slice Xc (P.cellsOf e) (l.map (·.2))],?_,rfl,by simp [AV.isCell],fun i c u hc hu=>?_⟩
    ·simp only [TyR,hk]
     refine ⟨_,rfl,by simp;omega,fun y hy=>?_⟩
     obtain ⟨p,hp,rfl⟩:=Xm.1 hy
     exact (hall p hp).1
    ·cases i with
     | succ i => simp at hc
     | zero =>
      simp only [XK,Xf] at hc hu
      subst hc
      subst hu
      cases l with
      | nil =>
       have:len=0:=by simpa using hl1.symm
       subst this
       exact .sliceE (fun h=>by cases h)
      | cons p l' =>
       have hcell:∀ (j:Nat) (u:Value),((p::l').map (·.1)).flatten[j]? = Xa u→w.cell? ⟨a.block,a.off+j,Xe⟩=Xa u:=by
        refine Zez (s:=P.cellsOf e) (cell:=fun o=>w.cell? ⟨a.block,o,Xe⟩) _ a.off fun i us hi=>?_
        rw [Xl] at hi
        cases hpi:(p::l')[i]? with
        | none => simp [hpi] at hi
        | some q =>
         simp only [hpi,Xv,Xf] at hi
         subst hi
         obtain ⟨g1,_,_⟩:=hl2 i q hpi
         obtain ⟨_,k2,k3⟩:=World.cells?_some g1
         refine ⟨k2,fun k u hu=>?_⟩
         have hk':k < P.cellsOf e:=by rw [← k2];exact (Xn.1 hu).1
         have:=k3 k hk'
         rw [hu] at this
         have hblk:((a.add (i*P.cellsOf e)).add k).block=a.block∧((a.add (i*P.cellsOf e)).add k).off=a.off+i*P.cellsOf e+k:=by
          unfold Addr.add
          split<;>split<;>simp_all
         have hspot:((a.add (i*P.cellsOf e)).add k).spot=Xe:=by
          unfold World.cell? at this
          split at this
          ·split at this
           ·cases this
           ·rename_i hs;simpa using hs
          ·cases this
         have heq:(a.add (i*P.cellsOf e)).add k=⟨a.block,a.off+i*P.cellsOf e+k,Xe⟩:=by
          rw [← hblk.1,← hblk.2,← hspot]
         rw [heq] at this
         exact this
       have hspot:a.spot=Xe:=by
        obtain ⟨g1,_,_⟩:=hl2 0 p rfl
        obtain ⟨_,k2,k3⟩:=World.cells?_some g1
        have:=k3 0 hf.2
        obtain ⟨u,hu⟩:∃ u,p.1[0]? = Xa u:=⟨_,Xq (by rw [k2];exact hf.2)⟩
        rw [hu] at this
        have ha:(a.add (0*P.cellsOf e)).add 0=a:=by simp [Addr.add]
        rw [ha] at this
        unfold World.cell? at this
        split at this
        ·split at this
         ·cases this
         ·rename_i hs;simpa using hs
        ·cases this
       have ha:a=⟨a.block,a.off,Xe⟩:=by rw [← hspot]
       have hlen:((p::l').map (·.2)).length=len:=by rw [Xi];exact hl1
       rw [ha,← hlen]
       have hrel:YC w (VB w) ((p::l').map (·.2)).flatten ((p::l').map (·.1)).flatten:=by
        refine YC.flat _ _ (by simp) fun i x us hx hus=>?_
        rw [Xl] at hx hus
        cases hpi:(p::l')[i]? with
        | none => simp [hpi] at hx
        | some q =>
         simp only [hpi,Xv,Xf] at hx hus
         subst hx
         subst hus
         exact (hl2 i q hpi).2.2
       have hsz:∀ x∈(p::l').map (·.2),x.length=P.cellsOf e:=by
        intro x hx
        obtain ⟨q,hq,rfl⟩:=Xm.1 hx
        obtain ⟨_,g2,g3⟩:=hall q hq
        rw [g2.1,g3]
       refine .sliceC (us:=((p::l').map (·.1)).flatten) hsz (fun x hx=>?_) (fun h=>by cases h) (by rw [hlen];exact hlc) (fun hne=>?_) ?_ hcell hrel.2.2
       ·obtain ⟨q,hq,rfl⟩:=Xm.1 hx
        exact (hall q hq).2.1.2.1
       ·have hpos:0 < (((p::l').map (·.1)).flatten).length:=List.length_pos_iff.2 hne
        have hlast:=hcell ((((p::l').map (·.1)).flatten).length-1) _ (Xq (by omega))
        have:=Zmh hlast
        omega
       ·rw [← hrel.1,Zh _ _ hsz]
  ·rename_i fs hk
   simp only [Xx,decide_eq_true_eq,XC] at hf
   obtain ⟨⟨h1,h2⟩,h3⟩:=hf
   obtain ⟨xs,m,_,_,hlen,hxl,hparts⟩:=DataW.trod_struct hk h
   obtain ⟨ps,q1,q2,q3⟩:=Zp3 (fs.toList.map fun f=>P.cellsOf f.type) cs (by rw [hlen,h2])
   have hps:ps.length=fs.size:=by rw [q1];simp
   obtain ⟨l,hl1,hl2⟩:=WK (Q:=fun i (avs:List AV)=>∃ (f:Field) (us:List Value),fs[i]? = Xa f∧ps[i]? = Xa us∧TyR P d f.type avs∧YC w (VB w) avs us) fs.size fun i hi=>by
    have hfi:fs[i]? = Xa fs[i]:=X8 hi
    have hn:(fs.toList.map fun f=>P.cellsOf f.type)[i]? = Xa (P.cellsOf fs[i].type):=by simp [hi]
    have h4:=q3 i _ hn
    have h5:=hparts i _ hfi
    have hoff:=h3 (fs[i],i) (by rw [TY];simp [hi])
    simp only at hoff
    rw [hoff,Ui] at h5
    obtain ⟨y,hy⟩:∃ y,xs[i]? = Xa y:=⟨_,Xq (by omega)⟩
    rw [hy] at h5
    obtain ⟨avs,h6,h7⟩:=Zhx d m _ _ y (h1 fs[i] (by simp)) h5
    exact ⟨avs,fs[i],_,hfi,h4,h6,h7⟩
   refine ⟨l.flatten,?_,?_⟩
   ·simp only [TyR,hk]
    refine ⟨l,rfl,hl1,fun i f p hf hp=>?_⟩
    obtain ⟨f',us,g1,g2,g3,g4⟩:=hl2 i p hp
    rw [hf] at g1
    cases g1
    exact g3
   ·rw [← q2]
    refine YC.flat _ _ (by rw [hl1,hps]) fun i avs us ha hu=>?_
    obtain ⟨f',us',g1,g2,g3,g4⟩:=hl2 i avs ha
    rw [hu] at g2
    cases g2
    exact g4
  ·cases hf
def ZbA (P:Program) (d:Nat) (T:TypeId) (x:AV):Prop:=
 match P.underlying T with
 | some (.struct _) => ∃ cs, x = .agg cs ∧ TyR P d T cs
 | _ => x.isCell = Xb ∧ TyR P d T [x]
theorem Zos {lim:Nat→Nat} {avs:List AV} {v:Value} (h:YC w lim avs [v]):∃ x,avs = [x]∧x.isCell=Xb∧Rep w lim x v:=by
 obtain ⟨x,rfl⟩:=U9.1 (by simpa using h.1:avs.length=1)
 exact ⟨x,rfl,h.2.1 x (by simp),h.2.2 0 x v rfl rfl⟩
theorem Zpv {d:Nat} {T:TypeId} {v:Value} {x:DataW H} {ps:List MemPlace} {r:Reach} {base:Nat} (hf:ZbK P d T=Xb) (hok:Value.okWide P w r base T v)
  (h:DataW.Trod enc P w 0 sp held T v x ps):∃ y,ZbA P d T y∧∀ X σ k,ZZ P w (VB w) X σ k y v:=by
 obtain ⟨n,h⟩:=h
 obtain ⟨avs,h1,h2⟩:=Zhx d n T _ _ hf h
 cases d with
 | zero => simp [ZbK] at hf
 | succ d =>
  have one:v.cells.toList = [v]→(∀ fs,P.underlying T≠Xa (.struct fs))→∃ y,ZbA P (d+1) T y∧∀ X σ k,ZZ P w (VB w) X σ k y v:=by
   intro hv hns
   rw [hv] at h2
   obtain ⟨y,rfl,h3,h4⟩:=Zos h2
   refine ⟨y,?_,fun X σ k=>(K1 h3 h4).2⟩
   unfold ZbA
   split
   ·rename_i fs hfs;exact (hns fs hfs).elim
   ·exact ⟨h3,h1⟩
  simp only [ZbK] at hf
  split at hf
  ·rename_i kd hk
   obtain ⟨z,hz,_⟩:=DataW.trod_int hk h
   refine one ?_ (by rw [hk];simp)
   simp only [Value.okWide,hk,Cell.okWide] at hok
   cases v<;>simp_all [Cell.ok,Value.cells]
  ·rename_i hk
   refine one ?_ (by rw [hk];simp)
   simp only [Value.okWide,hk,Cell.okWide] at hok
   cases v<;>simp_all [Cell.ok,Value.cells]
  ·rename_i hk
   refine one ?_ (by rw [hk];simp)
   simp only [Value.okWide,hk,Cell.okWide] at hok
   cases v<;>simp_all [Cell.ok,Value.cells]
  ·rename_i e hk
   refine one ?_ (by rw [hk];simp)
   simp only [Value.okWide,hk,Cell.okWide] at hok
   cases v<;>simp_all [Cell.ok,Value.cells]
  ·rename_i fs hk
   simp only [Value.okWide,hk] at hok
   obtain ⟨cs,rfl,_,_⟩:=hok
   refine ⟨.agg avs,?_,?_⟩
   ·unfold ZbA
    simp only [hk]
    exact ⟨avs,rfl,h1⟩
   ·have:cs=cs.toList.toArray:=by simp
    intro X σ k
    show Rep w (VB w) (.agg avs) (.agg cs)
    rw [this]
    exact .agg h2.1 h2.2.1 h2.2.2
  ·cases hf
theorem ZgK {d:Nat} {r:Reach} {base:Nat} : ∀ (ts:List TypeId) (vs:List Value) (ds:List (DataW H)) (ps:List MemPlace),(∀ t∈ts,ZbK P d t=Xb)→
  (∀ (j:Nat) (t:TypeId) (v:Value),ts[j]? = Xa t→vs[j]? = Xa v→Value.okWide P w r base t v)→DataW.TrodAll enc P w 0 sp held ts vs ds ps→
  vs.length=ts.length∧∃ xs:List AV,xs.length=ts.length∧∀ (i:Nat) (t:TypeId) (x:AV) (v:Value),ts[i]? = Xa t→xs[i]? = Xa x→vs[i]? = Xa v→ZbA P d t x∧∀ X σ k,ZZ P w (VB w) X σ k x v
 | [], [], [], ps, _, _, _ => ⟨rfl, [], rfl, by simp⟩
 | t :: ts, v :: vs, x :: ds, ps, hf, hok, h => by
  obtain ⟨p,q,h1,h2,_⟩:=h
  obtain ⟨y,g1,g2⟩:=Zpv (hf t (by simp)) (hok 0 t v rfl rfl) h1
  obtain ⟨k1,xs,k2,k3⟩:=ZgK ts vs ds q (fun t ht=>hf t (by simp [ht])) (fun j t' v' ht hv=>hok (j+1) t' v' (by simpa using ht) (by simpa using hv)) h2
  refine ⟨by simp [k1],y::xs,by simp [k2],fun i t' x' v' ht hx hv=>?_⟩
  cases i with
  | zero =>
   simp only [XK,Xf] at ht hx hv
   subst ht
   subst hx
   subst hv
   exact ⟨g1,g2⟩
  | succ i => exact k3 i t' x' v' (by simpa using ht) (by simpa using hx) (by simpa using hv)
 | [], _ :: _, _, _, _, _, h => h.elim
 | [], [], _ :: _, _, _, _, h => h.elim
 | _ :: _, [], _, _, _, _, h => h.elim
 | _ :: _, _ :: _, [], _, _, _, h => h.elim
theorem ZgU {w':World} {sp':Nat→Bool} (hl:laidOutB P=Xb):∀ (ts:List TypeId) (vs:List Value) (ds:List (DataW H)) (ps:List MemPlace),(∀ t∈ts,t < P.types.size∧P.readableRec t=Xb)→
  DataW.TrodAll enc P w 0 (fun _=>Xb) Xb ts vs ds ps→(∀ p∈ps,w.sameAt w' p)→(∀ p∈ps,sp' p.block=Xb)→DataW.TrodAll enc P w' 0 sp' Xb ts vs ds ps
 | [], [], [], _, _, h, _, _ => h
 | t :: ts, v :: vs, x :: ds, ps, ht, h, hs, hp => by
  obtain ⟨p,q,⟨n,h1⟩,h2,rfl⟩:=h
  refine ⟨p,q,⟨n,?_⟩,ZgU hl ts vs ds q (fun t' h'=>ht t' (by simp [h'])) h2 (fun z hz=>hs z (by simp [hz])) (fun z hz=>hp z (by simp [hz])),rfl⟩
  have hr:=(ht t (by simp)).2
  exact DataW.trod_stays (T:=InBook P t) (kids_book hl hr) (fun {t' e} h' hu=>book_sized hr h' hu) (fun h=>by cases h) ⟨(ht t (by simp)).1,book_self t⟩ h1 (fun z hz=>hs z (by simp [hz])) (fun z hz=>hp z (by simp [hz]))
 | [], _ :: _, _, _, _, h, _, _ => h.elim
 | [], [], _ :: _, _, _, h, _, _ => h.elim
 | _ :: _, [], _, _, _, h, _, _ => h.elim
 | _ :: _, _ :: _, [], _, _, h, _, _ => h.elim
theorem Zfa {fn:Func} {f:FuncId} {s:ChangeSpec} {apart fresh handsOn again:Bool} {tb:TypeId} {d:Nat} (hl:laidOutB P=Xb) (hpar:∀ t∈fn.params.toList,ZbK P d t=Xb∧t < P.types.size∧P.readableRec t=Xb)
  (hres:fn.resultTypes = #[tb]) (htb:P.underlying tb=Xa .bool) (hvars:s.vars = []) (hs:∀ ds,ds.length=fn.params.size→s.fn H ds = { results:=[.lit (.bool Xb)],args:=ds })
  (hcall:∀ xs:List AV,xs.length=fn.params.toList.length→(∀ (i:Nat) (t:TypeId) (x:AV),fn.params.toList[i]? = Xa t→xs[i]? = Xa x→ZbA P d t x)→∃ outs,J0 P f xs (B Xb) outs)
  (W:World) (base:Nat) (args:Array Value) (ds gs:List (DataW H)) (before:List MemPlace)
  (hval:∀ (j:Nat) t v,fn.params[j]? = Xa t→args[j]? = Xa v→Value.okWide P W .any base t v) (hW:DataW.Whole enc P fn.params.toList s.vars apart W args.toList ds gs before) :
  Calls P f args W fun e W'=>∃ v,e = .returned v∧s.post enc P fn apart fresh handsOn again W args v W':=by
 have hW':=hW
 obtain ⟨p,q,hA,hV,rfl,_,_⟩:=hW
 rw [hvars] at hV
 obtain ⟨rfl,rfl⟩:=ChangeShapes.trodVars_none hV
 obtain ⟨hlen,xs,hx1,hx2⟩:=ZgK (r:=.any) (base:=base) _ _ _ _ (fun t ht=>(hpar t ht).1) (fun j t v ht hv=>hval j t v (by simpa using ht) (by simpa using hv)) hA
 have hdl:ds.length=fn.params.size:=by
  have:∀ (ts:List TypeId) (vs:List Value) (ds:List (DataW H)) (ps:List MemPlace),DataW.TrodAll enc P W 0 (fun _=>Xb) Xb ts vs ds ps→ds.length=ts.length:=by
   intro ts
   induction ts with
   | nil => intro vs ds ps h; cases vs <;> cases ds <;> simp_all [DataW.TrodAll]
   | cons t ts ih =>
    intro vs ds ps h
    cases vs with
    | nil => exact h.elim
    | cons v vs =>
     cases ds with
     | nil => exact h.elim
     | cons x ds => obtain ⟨_, _, _, h2, _⟩ := h; simp [ih _ _ _ h2]
  simpa using this _ _ _ _ hA
 obtain ⟨outs,_,hc⟩:=hcall xs hx1 fun i t x ht hx=>by
  obtain ⟨v,hv⟩:∃ v,args.toList[i]? = Xa v:=⟨_,Xq (by rw [hlen];exact (Xn.1 ht).1)⟩
  exact (hx2 i t x v ht hx hv).1
 have hng:xs.countP AV.isG=0:=by
  rw [List.countP_eq_zero]
  intro x hx hg
  obtain ⟨i,hi⟩:=XU.1 hx
  have hlt:=(Xn.1 hi).1
  obtain ⟨v,hv⟩:∃ v,args.toList[i]? = Xa v:=⟨_,Xq (by omega)⟩
  obtain ⟨t,ht⟩:∃ t,fn.params.toList[i]? = Xa t:=⟨_,Xq (by omega)⟩
  have hr:=(hx2 i t x v ht hi hv).2 (fun _ _=>Xe) (fun _=>.dead) 0
  cases x<;>simp [AV.isG] at hg
  obtain ⟨v',b,_,_,h,_⟩:=hr
  cases h
 have hcalls:=hc.2 W (VB W) (fun _ _=>Xe) args.toList (by rw [hng,hlen,hx1];exact XA _) (fun i=>by
  cases hxi:xs[i]? with
  | none =>
   have:ZW xs i = .dead:=by simp [ZW,hxi]
   rw [this]
   trivial
  | some x =>
   have hi:=(Xn.1 hxi).1
   obtain ⟨v,hv⟩:∃ v,args.toList[i]? = Xa v:=⟨_,Xq (by omega)⟩
   obtain ⟨t,ht⟩:∃ t,fn.params.toList[i]? = Xa t:=⟨_,Xq (by omega)⟩
   have h1:ZW xs i=x:=by simp [ZW,hxi]
   have h2:args.toList.getD i undef=v:=by rw [TQ,hv];rfl
   rw [h1,h2]
   exact (hx2 i t x v ht hxi hv).2 _ _ _) (fun _ _ _ _ _ h=>by cases h) (fun _ _ _ h=>by cases h) (fun _ _ _=>rfl)
 rw [UE] at hcalls
 refine hcalls.mono ?_
 rintro e W' ⟨v,lim',X',rfl,hst,hol,hrel,_,_,_⟩
 have hv:v = .bool Xb:=by
  have h:=hrel xs.length
  have h1:ZW (outs++[B Xb]) xs.length=B Xb:=by
   simp only [ZW]
   rw [XB (by omega),hol]
   simp
  have h2:ZaR xs.length args.toList v xs.length=v:=if_pos rfl
  rw [h1,h2] at h
  exact YV h
 subst hv
 have hkept:∀ b,b < W.heap.size→W'.heap[b]? = W.heap[b]?:=fun b hb=>(hst.blk b hb (by rintro ⟨_,_,h⟩;cases h)).1
 have hsame:∀ z∈p++[],W.sameAt W' z:=by
  intro z hz
  have hlt:=hW'.lt z hz
  cases z with
  | cell b off =>
   show W'.cell? ⟨b,off,Xe⟩=W.cell? ⟨b,off,Xe⟩
   unfold World.cell?
   rw [hkept b hlt]
  | map b => exact hkept b hlt
 refine ⟨_,rfl,Zj0 (pa:=p) hW' (fun b sp hd=>?_) (fun sp hp=>?_) (fun sp _=>?_) rfl ?_ hst.frz ?_⟩
 ·rw [hs _ (by simpa using hdl),hres]
  exact ⟨[],[],⟨1,by simp [DataW.trod,htb,Value.cells]⟩,rfl,rfl⟩
 ·rw [hs _ (by simpa using hdl),Us]
  exact ZgU hl _ _ _ _ (fun t ht=>(hpar t ht).2) hA (fun z hz=>hsame z (by simpa using hz)) (fun z hz=>hp z (by simpa using hz))
 ·rw [hs _ (by simpa using hdl),hvars]
  rfl
 ·refine ⟨hst.os,hst.output,fun i hi=>?_⟩
  rw [hkept i hi]
  cases W.heap[i]? with
  | none => rfl
  | some o => cases o <;> simp
 ·exact RowKit.ok_one hres rfl (RowKit.okWide_bool_mk htb Xb)
end
open Go
def blank:Char:=Char.ofNat 32
theorem Zij (r:List Char):wordsSigns (blank::r) = []::wordsSigns r:=by
 show wordsSigns (Char.ofNat 32::r)=_
 rw [wordsSigns]
theorem ZhA (c:Char) (r:List Char) (h:c≠blank):wordsSigns (c::r)=match wordsSigns r with | w::ws=>(c::w)::ws | []=>[[c]]:=by
 rw [wordsSigns]
 ·rfl
 ·exact h
theorem We (r:List Char):∀ (w:List Char),(w.all fun c=>c != blank)=Xb→wordsSigns (w++blank::r)=w::wordsSigns r
 | [], _ => Zij r
 | c :: w, h => by
  rw [UN,Xx] at h
  rw [X6,ZhA c _ (by simpa using h.1),We r w h.2]
theorem Zg8 {L:List Char} (h1:((L.take 7).all fun c=>c != blank)=Xb) (h2:(((L.drop 8).take 64).all fun c=>c != blank)=Xb) (h3:(((L.drop 73).take 3).all fun c=>c != blank)=Xb)
  (hL : L = L.take 7 ++ blank :: ((L.drop 8).take 64 ++ blank :: ((L.drop 73).take 3 ++ blank :: L.drop 77))) (hm : ((L.take 7 == "harness".toList || L.take 7 == "ownmain".toList) && isSumSigns ((L.drop 8).take 64)) = Xb)
  (hc : (L.drop 73).take 3 = "cut".toList) : ∃ ws, behindMainWord (wordsSigns L) = "cut".toList :: ws := by
 refine ⟨wordsSigns (L.drop 77),?_⟩
 have h:wordsSigns L=L.take 7::(L.drop 8).take 64::(L.drop 73).take 3::wordsSigns (L.drop 77):=by
  rw [hL,We _ _ h1,We _ _ h2,We _ _ h3,← hL]
 rw [h,behindMainWord,if_pos hm,hc]
theorem enters_of {P : Program} {ws : List (List Char)} (h : behindMainWord (wordsSigns P.initOrder.toList) = "cut".toList :: ws) (h1 : P.laysLater = Xc) (h2 : P.bearsReflect = Xc) (h3 : P.doorFits [] = Xb) : P.mayEnter = Xb := by
 unfold Program.mayEnter
 rw [h]
 have hs : stripLifts liftWords ("cut".toList :: ws) = ([], "cut".toList :: ws) := by kernel_rfl
 simp only [hs]
 simp [h1,h2,h3]
theorem lifts_of {P : Program} {ws : List (List Char)} (h : behindMainWord (wordsSigns P.initOrder.toList) = "cut".toList :: ws) : P.headLifts = [] := by
 unfold Program.headLifts
 rw [h]
 have hs : stripLifts liftWords ("cut".toList :: ws) = ([], "cut".toList :: ws) := by kernel_rfl
 simp only [hs]
 simp
theorem final_of {P : Program} {ws : List (List Char)} (h : behindMainWord (wordsSigns P.initOrder.toList) = "cut".toList :: ws) : P.liftsFinal = Xc := by
 unfold Program.liftsFinal
 rw [lifts_of h,h]
 have hs : ("cut".toList == "carried".toList) = Xc := by decide +kernel
 simp [hs]
theorem make_of {P : Program} {ws : List (List Char)} (h : behindMainWord (wordsSigns P.initOrder.toList) = "cut".toList :: ws) : P.make = Xa .cut := by
 unfold Program.make
 rw [h]
 simp
section
variable {P:Program} {E:Env}
def ZeA (P:Program) (g:Nat→SV) (rs:List ResultVar):Option SV:=
 match rs with
 | [r] => (Vb P g r).map ZsX
 | rs => (VH P g rs).map .tuple
theorem Zhv {g:Nat→SV} {rs:List ResultVar} {r:SV} (h:Zof P g rs=Xa r) :
  (∃ t T cs,rs = [.cell t T]∧Z2 P T=Xa Xb∧g t = .box cs∧cs.length=P.cellsOf T∧VD cs=Xb∧r = .aggo cs)∨ZeA P g rs=Xa r:=by
 unfold Zof at h
 split at h
 ·rename_i r0
  split at h
  ·rename_i cs hcs
   cases h
   unfold Zl3 at hcs
   split at hcs
   ·rename_i t T
    split at hcs
    ·rename_i cs1 hT hg
     split at hcs
     ·rename_i hh
      cases hcs
      exact .inl ⟨t,T,_,rfl,hT,hg,hh.1,hh.2.2,rfl⟩
     ·cases hcs
    ·cases hcs
   ·cases hcs
  ·exact .inr h
 ·rename_i hne
  refine .inr ?_
  unfold ZeA
  split
  ·rename_i r1
   exact (hne r1 rfl).elim
  ·exact h
theorem Znt {a:SV} {ρ:Nat→V} (h:ZdU P a=Xb):∀ e xs,a.den ρ = .own Xb e xs→Zk P e=Xc:=by
 intro e xs he
 cases a with
 | own x e' l =>
  simp only [SV.den,AV.own.injEq] at he
  obtain ⟨rfl,rfl,_⟩:=he
  simpa [ZdU] using h
 | c y => cases y <;> cases he
 | _ => cases he
theorem Zbn {cs:List BC} {ρ:Nat→V} {k:Nat} {e:TypeId} {xs:List (List AV)} (h:(cs.all fun c=>match c with | .own Xb e _=>!Zg P e | _=>Xb)=Xb)
  (ho:(match (cs.map (BC.den ρ))[k]? with | some (.own Xb e xs)=>Xa (e,xs) | _=>Xe)=Xa (e,xs)):Zg P e=Xc:=by
 rw [Xl] at ho
 cases hc:cs[k]? with
 | none => rw [hc] at ho; cases ho
 | some c =>
  rw [hc] at ho
  have h1:=XC.1 h c (Xj hc)
  cases c with
  | c y => cases y <;> cases ho
  | gone => cases ho
  | own x e' l =>
   cases x with
   | false => cases ho
   | true =>
    simp only [Xv,BC.den,Xf,Xo] at ho
    rw [← ho.1]
    simpa using h1
theorem Zei {a:SV} {ρ:Nat→V} (h:ZdU P a=Xb) {k:Nat} {e:TypeId} {xs:List (List AV)} (ho:Z5 (a.den ρ) k=Xa (e,xs)):Zg P e=Xc:=by
 cases a with
 | own x e' l =>
  cases x with
  | false => cases k <;> cases ho
  | true =>
   cases k with
   | zero =>
    simp only [SV.den,Z5,Xf,Xo] at ho
    rw [← ho.1]
    exact ZT (by simpa [ZdU] using h)
   | succ k => cases ho
 | box cs => cases k with | zero => cases ho | succ k => exact Zbn (ρ := ρ) h ho
 | gbox cs => cases k with | zero => cases ho | succ k => exact Zbn (ρ := ρ) h ho
 | tuple _ => cases h
 | aggo _ => cases h
 | c y => cases y <;> (cases k <;> cases ho)
 | _ => cases k <;> cases ho
theorem Zcd {s:Tr} {r:ResultVar} {x:TC} (h:Vb P (gE E s) r=Xa x):Je r < E.top:=by
 rcases XD (Je r) E.top with hlt | hge
 ·exact hlt
 ·have hd:gE E s (Je r) = .dead:=Zat s _ hge
  cases r with
  | tmp t => simp only [Je] at hd; simp only [Vb, hd] at h; cases h
  | cell t T =>
   simp only [Je] at hd
   simp only [Vb,hd] at h
   cases hT:Z2 P T with
   | none => rw [hT] at h; cases h
   | some b => rw [hT] at h; cases b <;> cases h
theorem Zch {s:Tr} : ∀ (rs:List ResultVar) (xs:List TC),VH P (gE E s) rs=Xa xs→∀ r∈rs,Je r < E.top
 | [], _, _, r, hr => by cases hr
 | r0 :: rs, xs, h, r, hr => by
  simp only [VH] at h
  split at h
  ·rename_i x xs' hx hxs
   rcases Xu.1 hr with rfl | hr
   ·exact Zcd hx
   ·exact Zch rs xs' hxs r hr
  ·cases h
theorem Zeg {s:Tr} {ρ:Nat→V} {r:ResultVar} {x:TC} (h:Vb P (gE E s) r=Xa x) {e:TypeId} {xs:List (List AV)} (hx:x.den ρ = .own Xb e xs):Z5 (ZO E s ρ (Je r)) (ZaC r)=Xa (e,xs):=by
 cases r with
 | tmp t =>
  simp only [Vb] at h
  split at h
  ·rename_i y hy
   cases h
   cases y<;>cases hx
  ·cases h;cases hx
  ·rename_i b e' l hy
   cases h
   simp only [TC.den,AV.own.injEq] at hx
   obtain ⟨rfl,rfl,rfl⟩:=hx
   simp only [Je,ZaC,ZO,hy]
   rfl
  ·cases h
 | cell t T =>
  simp only [Vb] at h
  split at h
  ·split at h
   ·cases h;cases hx
   ·cases h
  ·rename_i bx e' l hT hy
   cases h
   simp only [TC.den,AV.own.injEq] at hx
   obtain ⟨rfl,rfl,rfl⟩:=hx
   simp only [Je,ZaC,ZO,hy]
   rfl
  ·rename_i y hT hy
   cases h
   cases y<;>cases hx
  ·cases h
theorem ZeD {s:Tr} {ρ:Nat→V} : ∀ (rs:List ResultVar) (xs:List TC),VH P (gE E s) rs=Xa xs→∀ (i:Nat) (x:TC) (e:TypeId) (ys:List (List AV)),xs[i]? = Xa x→x.den ρ = .own Xb e ys→∃ r,rs[i]? = Xa r∧Z5 (ZO E s ρ (Je r)) (ZaC r)=Xa (e,ys)
 | [], xs, h, i, x, e, ys, hx, _ => by
  simp only [VH,Xf] at h
  subst h
  simp at hx
 | r0 :: rs, xs, h, i, x, e, ys, hx, ho => by
  simp only [VH] at h
  split at h
  ·rename_i x0 xs' h0 hxs
   cases h
   cases i with
   | zero =>
    simp only [XK,Xf] at hx
    subst hx
    exact ⟨r0,rfl,Zeg h0 ho⟩
   | succ i =>
    obtain ⟨r,h1,h2⟩:=ZeD rs xs' hxs i x e ys (by simpa using hx) ho
    exact ⟨r,by simpa using h1,h2⟩
  ·cases h
theorem callOk_ofR {R : AV → List AV → Prop} (hm : P.follows .mixedOrders = Xb) (hps : EnvSound P E) {f : FuncId} {fn : Func} (hf : P.funcs[f]? = Xa fn) (hname : (fn.name == "runtime.NumGoroutine") = Xc) {args : List SV} {n : Nat} {ρ : Nat → V}
  (hargs:∀ a∈args,a.bd n) {res:AV} {outs:List AV} (hR:∀ r os,R r os→VG P (os++[r]) (outs++[res])) (h:(Ztf P E fn args n).wp P R (fun _ _=>False) ρ):J0 P f (args.map (SV.den ρ)) res outs:=by
 unfold Ztf at h
 split at h
 case h_2=>exact h.elim
 rename_i code hbody
 dsimp only at h
 split at h
 case isFalse=>exact h.elim
 rename_i hh
 obtain ⟨hnt,hnm,hal,hng,haf,hanm⟩:=hh
 have hat:=WU args 0 haf
 have hngb:args.length < ngN:=Nat.lt_of_le_of_lt (XY hal hnt) (by decide)
 refine ⟨⟨fn,hf,hname,by rw [hbody];rfl⟩,by rw [Xi];exact hngb,?_⟩
 intro w lim X cargs hcl hrel hdist hsize hxfar
 rw [Xi] at hxfar
 rw [Xi] at hcl
 have hgl:∀ (aZ:List SV) (i:Nat),JL E aZ i=Xb→i+aZ.length≤E.nt+((aZ.map (SV.den ρ)).countP AV.isG)∨aZ.length≤(aZ.map (SV.den ρ)).countP AV.isG:=by
  intro aZ
  induction aZ with
  | nil => intro i _; exact .inr (XZ _)
  | cons a aZ ih =>
   intro i hf
   have h0:=WU (a::aZ) i hf 0 a rfl
   have hd:(a.den ρ).isG=a.isG:=by cases a<;>first | rfl | (rename_i x;cases x<;>rfl)
   rw [Xk,UZ,hd,XN]
   by_cases hg:a.isG=Xb
   ·rw [if_pos hg]
    rcases ih (i+1) (Vm hf) with h1 | h1
    ·left;omega
    ·right;omega
   ·rw [if_neg hg]
    have h2:i < E.nt:=by
     rcases XD i E.nt with h | h
     ·exact h
     ·exact (hg (h0.2.2 (by simpa using h))).elim
    rcases ih (i+1) (Vm hf) with h1 | h1
    ·left;omega
    ·left;omega
 have hcn:cargs.length≤E.nt:=by
  rcases hgl args 0 haf with h1 | h1<;>omega
 have hcd:∀ d,d < args.length→(∃ a,args[d]? = Xa a):=fun d hd=>⟨_,Xq hd⟩
 refine calls_of_wp hf hbody ?_
 let c:Ctx:=⟨P,w,lim,fun b=>∃ i k,X i k=Xa b,E.nt,fun d=>match args[d]? with | some (.box _)=>Xa (cargs.getD d undef) | _=>Xe,fun d=>match args[d]? with | some (.gbox _)=>X d 0 | _=>Xe⟩
 have hlow:YE E (V7 args 0):=by
  unfold YE
  rw [XC]
  intro u hu
  have:=Zeb args 0 E.top (by omega) u hu
  simpa using this
 have hσ:ZO E (Z8 (V7 args 0) (.leaf .dead)) ρ=ZW (args.map (SV.den ρ)):=by
  rw [Jn hnt ρ _ _ hlow]
  funext d
  rw [ZeI,XM,Nat.sub_zero]
  split
  ·rfl
  ·rename_i hd
   have h1:ZO E (.leaf .dead) ρ d = .dead:=by
    simp only [ZO,gE]
    split<;>rfl
   have h2:(args.map (SV.den ρ))[d]? = Xe:=Ux (by rw [Xi];omega)
   rw [h1]
   simp only [ZW,h2]
   rfl
 have htm:∀ d,(cargs.toArray++Array.replicate (fn.ntmps-cargs.toArray.size) undef).getD d undef=cargs.getD d undef:=by
  intro d
  rw [TQ,Array.getD_eq_getD_getElem?,Array.getElem?_append]
  simp only [Uk,U1]
  split
  ·rfl
  ·rename_i h1
   rw [Ux (by omega),Array.getElem?_replicate]
   split<;>rfl
 have hpin:∀ d v,c.pin d=Xa v→(∃ cs,args[d]? = Xa (.box cs))∧v=cargs.getD d undef:=by
  intro d v hv
  have hv':(match args[d]? with | some (.box _)=>Xa (cargs.getD d undef) | _=>Xe)=Xa v:=hv
  split at hv'
  ·rename_i cs hcs
   simp only [Xf] at hv'
   exact ⟨⟨cs,hcs⟩,hv'.symm⟩
  ·cases hv'
 have hsim:Sim c (ZO E (Z8 (V7 args 0) (.leaf .dead)) ρ) (cargs.toArray++Array.replicate (fn.ntmps-cargs.toArray.size) undef) w lim X:=by
  rw [hσ]
  have hG:∀ d,(ZW (args.map (SV.den ρ)) d).isG=Xb↔∃ cs,args[d]? = Xa (.gbox cs):=by
   intro d
   cases ha:args[d]? with
   | none =>
    have h2:(args.map (SV.den ρ))[d]? = Xe:=by rw [Xl,ha];rfl
    simp only [ZW,h2]
    exact ⟨fun h=>(by cases h),fun ⟨_,h⟩=>(by cases h)⟩
   | some a =>
    have h2:ZW (args.map (SV.den ρ)) d=a.den ρ:=by simp only [ZW,Xl,ha];rfl
    rw [h2]
    cases a with
    | gbox cs => exact ⟨fun _ => ⟨cs, rfl⟩, fun _ => rfl⟩
    | c x => exact ⟨fun h => (by cases x <;> cases h), fun ⟨_, h⟩ => (by cases h)⟩
    | _ => exact ⟨fun h => (by cases h), fun ⟨_, h⟩ => (by cases h)⟩
  refine ⟨fun d=>by rw [htm d];exact hrel d,?_,fun d hd=>?_,fun d hd=>?_,hdist,fun d k b hb=>⟨hsize d k b hb,.inl ⟨d,k,hb⟩⟩,⟨rfl,rfl,rfl,XA _,fun _ _=>rfl,fun _ _ _=>⟨rfl,rfl⟩,Ext.refl w lim⟩,fun d v hv=>?_,fun d e xs hdo=>?_,fun d b hb=>?_,XY (XY (XX _ _) hnt) (by decide),fun d hd=>?_,fun d k e xs b m1 m2 _=>?_,fun b m b' hb=>?_⟩
  ·show _=E.nt
   simp
   omega
  ·cases ha:args[d]? with
   | none =>
    left
    have h2:(args.map (SV.den ρ))[d]? = Xe:=by rw [Xl,ha];rfl
    simp only [ZW,h2]
    rfl
   | some a =>
    right
    have h3:=(hat d a ha).2.2 (by rw [XM];exact hd)
    refine (hG d).2 ?_
    cases a<;>simp [SV.isG] at h3
    exact ⟨_,ha⟩
  ·obtain ⟨cs,hcs⟩:=(hG d).1 hd
   have:=(hat d _ hcs).2.1 rfl
   rwa [XM] at this
  ·obtain ⟨⟨cs,hcs⟩,rfl⟩:=hpin d v hv
   refine ⟨htm d,cs.map (BC.den ρ),?_⟩
   simp only [ZW,Xl,hcs]
   rfl
  ·cases ha:args[d]? with
   | none =>
    have h2:(args.map (SV.den ρ))[d]? = Xe:=by rw [Xl,ha];rfl
    simp only [ZW,h2] at hdo
    cases hdo
   | some a =>
    have h2:ZW (args.map (SV.den ρ)) d=a.den ρ:=by simp only [ZW,Xl,ha];rfl
    rw [h2] at hdo
    rw [XC] at hanm
    exact .noMap (Znt (hanm a (Xj ha)) e xs hdo)
  ·have hb':(match args[d]? with | some (.gbox _)=>X d 0 | _=>Xe)=Xa b:=hb
   split at hb'
   ·rename_i cs hcs
    exact ⟨hb',(hG d).2 ⟨cs,hcs⟩⟩
   ·cases hb'
  ·have h2:(args.map (SV.den ρ))[d]? = Xe:=Ux (by rw [Xi];omega)
   simp only [ZW,h2]
   rfl
  ·exfalso
   cases ha:args[d]? with
   | none =>
    have h2:(args.map (SV.den ρ))[d]? = Xe:=by rw [Xl,ha];rfl
    simp only [ZW,h2,Option.getD_none] at m1
    cases k<;>cases m1
   | some a =>
    have h2:ZW (args.map (SV.den ρ)) d=a.den ρ:=by simp only [ZW,Xl,ha];rfl
    rw [h2] at m1
    rw [XC] at hanm
    have h3:=Zei (hanm a (Xj ha)) m1
    have m2':Zg P e=Xb:=m2
    rw [h3] at m2'
    cases m2'
  ·rw [hxfar _ (by omega)] at hb;cases hb
 have hfin:∀ s' n' ρ' (A':Nat→List V→Prop),YK E s' n'→((match ZmC (gE E s') args fn.results.toList with
   | some (_, cs) => if (Kg (gE E s') args 0).all (ZdU P) = Xb then .ret (.box cs) (Kg (gE E s') args 0) else .stuck 125
   | none =>
   match Zof P (gE E s') fn.results.toList with
   | some r => if Za4 args fn.results.toList = Xb ∧ (Kg (gE E s') args 0).all (ZdU P) = Xb then STree.ret r (Kg (gE E s') args 0) else .stuck 124
   | none => .stuck 120) : STree).wp P R A' ρ' → ∀ tm' w' lim' X', Sim c (ZO E s' ρ') tm' w' lim' X' → ∃ v, (results fn tm').run P w' = .ok v w' ∧
    ∃ v1 lim1 X1,Ending.returned v = .returned v1∧ZU w lim w' lim1 (fun b=>∃ i k,X i k=Xa b)∧outs.length=(args.map (SV.den ρ)).length∧
     (∀ i,ZZ P w' lim1 X1 (ZW (outs++[res])) i (ZW (outs++[res]) i) (ZaR (args.map (SV.den ρ)).length cargs v1 i))∧Zmf X1∧
     (∀ i k b,X1 i k=Xa b→b < w'.heap.size∧((∃ i k,X i k=Xa b)∨w.heap.size≤b))∧(∀ i,(ZW (outs++[res]) i).isG=Xb→(ZW (args.map (SV.den ρ)) i).isG=Xb∧X1 i 0=X i 0)∧WP P outs∧ZsE P w' lim1 X1 res (args.map (SV.den ρ)).length:=by
  intro s' n' ρ' A' _ h' tm' w' lim' X' hsim'
  obtain ⟨r,SRC,hA,hB,hval,hG0,h',hnd,hlo,hD⟩:∃ (r:SV) (SRC:Nat→Nat→Option (Nat×Nat)),(∀ i,i < args.length→∀ k,SRC i k=if (args[i]?).map SV.isBx=Xa Xb then Xa (i,k) else Xe)∧
    (∀ i k i' k' p,SRC i k=Xa p→SRC i' k'=Xa p→i=i'∧k=k')∧
    (∃ v,(results fn tm').run P w' = .ok v w'∧ZZ P w' lim' (fun i k=>(SRC i k).bind fun p=>X' p.1 p.2) (ZW ((Kg (gE E s') args 0).map (SV.den ρ')++[r.den ρ'])) args.length (r.den ρ') v)∧
    (r.den ρ').isG=Xc∧(STree.ret r (Kg (gE E s') args 0)).wp P R A' ρ'∧(Kg (gE E s') args 0).all (ZdU P)=Xb∧(∀ i k p,SRC i k=Xa p→p.1 < ngN)∧
    ∀ k e xs,Z5 (r.den ρ') k=Xa (e,xs)→∀ p,SRC args.length k=Xa p→Z5 (ZO E s' ρ' p.1) p.2=Xa (e,xs):=by
   split at h'
   ·rename_i d0 cs hbr
    unfold ZmC at hbr
    split at hbr
    case h_2=>cases hbr
    rename_i t hrs
    split at hbr
    case h_2=>cases hbr
    rename_i d1 hgt
    split at hbr
    case h_2=>cases hbr
    rename_i cs1 hgd
    split at hbr
    case isFalse=>cases hbr
    rename_i hna
    simp only [Xf,Xo] at hbr
    obtain ⟨rfl,rfl⟩:=hbr
    split at h'
    case isFalse=>exact h'.elim
    rename_i hndl
    have hd1:d1 < ngN:=by
     rcases XD d1 E.top with hlt | hge
     ·exact XO hlt (XY hnt (by decide))
     ·rw [Zat s' _ hge] at hgd;cases hgd
    have hnb:∀ a,args[d1]? = Xa a→a.isBx=Xb→False:=by
     intro a ha hax
     rw [ha] at hna
     cases a<;>simp [SV.isBx] at hax<;>cases hna
    refine ⟨.box cs1,fun i k=>if i < args.length then (if (args[i]?).map SV.isBx=Xa Xb then Xa (i,k) else Xe) else if i=args.length then Xa (d1,k) else Xe,fun i hi k=>if_pos hi,?_,?_,rfl,h',hndl,fun i k p hp=>?_,fun k e xs ho p hp=>?_⟩
    rotate_left 2
    ·dsimp only at hp
     split at hp
     ·split at hp
      ·cases hp;dsimp only;omega
      ·cases hp
     ·split at hp
      ·cases hp;exact hd1
      ·cases hp
    ·dsimp only at hp
     rw [if_neg (U7 _),if_pos rfl] at hp
     cases hp
     show Z5 (ZO E s' ρ' d1) k=_
     have e2:ZO E s' ρ' d1 = .box (cs1.map (BC.den ρ')):=by simp only [ZO,hgd];rfl
     rw [e2]
     exact ho
    ·intro i k i' k' p h1 h2
     dsimp only at h1 h2
     split at h1
     ·split at h1
      ·rename_i hi hb
       simp only [Xf] at h1
       subst h1
       obtain ⟨a,ha,hax⟩:=X9.1 hb
       split at h2
       ·split at h2
        ·simp only [Xf,Xo] at h2;exact ⟨h2.1.symm,h2.2.symm⟩
        ·cases h2
       ·split at h2
        ·simp only [Xf,Xo] at h2
         exact (hnb a (by rw [h2.1];exact ha) hax).elim
        ·cases h2
      ·cases h1
     ·split at h1
      ·rename_i hi
       simp only [Xf] at h1
       subst h1
       split at h2
       ·split at h2
        ·rename_i hi' hb
         simp only [Xf,Xo] at h2
         obtain ⟨a,ha,hax⟩:=X9.1 hb
         exact (hnb a (by rw [← h2.1];exact ha) hax).elim
        ·cases h2
       ·split at h2
        ·rename_i hi'
         simp only [Xf,Xo] at h2
         exact ⟨by rw [hi,hi'],h2.2.symm⟩
        ·cases h2
      ·cases h1
    ·have ht:=hsim'.rel t
     have hd:=hsim'.rel d1
     have e1:ZO E s' ρ' t = .ptr d1 0:=by simp only [ZO,hgt];rfl
     have e2:ZO E s' ρ' d1 = .box (cs1.map (BC.den ρ')):=by simp only [ZO,hgd];rfl
     rw [e1] at ht
     rw [e2] at hd
     obtain ⟨b,cs',hb,_,hv⟩:=ht
     have hp:ZN P w' lim' (X' d1) (cs1.map (BC.den ρ')) (tm'.getD d1 undef):=hd
     obtain ⟨b',hb',hv'⟩:=Km hp
     rw [hb] at hb'
     simp only [Xf] at hb'
     subst hb'
     refine ⟨tm'.getD t undef,?_,?_⟩
     ·exact Vk (vs:=[tm'.getD t undef]) (by rw [hrs];rfl) fun i r' v' hr' hv2=>by
       rw [hrs] at hr'
       cases i with
       | zero =>
        simp only [XK,Xf] at hr' hv2
        subst hr'
        subst hv2
        rfl
       | succ i => simp at hr'
     ·show ZN P w' lim' (fun k=>((if args.length < args.length then (if (args[args.length]?).map SV.isBx=Xa Xb then Xa (args.length,k) else Xe) else if args.length=args.length then Xa (d1,k) else Xe:Option (Nat×Nat)).bind fun p=>X' p.1 p.2)) (cs1.map (BC.den ρ')) (tm'.getD t undef)
      have e3:(fun k=>((if args.length < args.length then (if (args[args.length]?).map SV.isBx=Xa Xb then Xa (args.length,k) else Xe) else if args.length=args.length then Xa (d1,k) else Xe:Option (Nat×Nat)).bind fun p=>X' p.1 p.2))=X' d1:=by
       funext k
       rw [if_neg (U7 _),if_pos rfl];rfl
      rw [e3,hv,← hv']
      exact hp
   ·split at h'
    case h_2=>exact h'.elim
    rename_i r hr
    split at h'
    case isFalse=>exact h'.elim
    rename_i hfine
    obtain ⟨hfine,hndl⟩:=hfine
    rcases Zhv hr with ⟨t,T,cs,hrs,hT,hgt,hcl2,hwh,rfl⟩ | hr
    ·-- a struct that owns what its cells own
     have htn:t < ngN:=by
      rcases XD t E.top with hlt | hge
      ·exact XO hlt (XY hnt (by decide))
      ·rw [Zat s' _ hge] at hgt;cases hgt
     have hna:∀ a,args[t]? = Xa a→a.isBx=Xb→False:=by
      intro a ha hax
      have h1:Za4 args [.cell t T]=Xb:=by rw [← hrs];exact hfine
      simp only [Za4,Xx,UN,List.all_nil,Bool.and_true,Je] at h1
      have h2:=h1.2
      rw [ha] at h2
      cases a<;>simp [SV.isBx] at hax<;>cases h2
     have e2:ZO E s' ρ' t = .box (cs.map (BC.den ρ')):=by simp only [ZO,hgt];rfl
     refine ⟨.aggo cs,fun i k=>if i < args.length then (if (args[i]?).map SV.isBx=Xa Xb then Xa (i,k) else Xe) else if i=args.length then (if k=0 then Xe else Xa (t,k)) else Xe,fun i hi k=>if_pos hi,?_,?_,rfl,h',hndl,fun i k p hp=>?_,fun k e xs ho p hp=>?_⟩
     ·intro i k i' k' p h1 h2
      dsimp only at h1 h2
      split at h1
      ·split at h1
       ·rename_i hi hb
        cases h1
        obtain ⟨a,ha,hax⟩:=X9.1 hb
        split at h2
        ·split at h2
         ·cases h2;exact ⟨rfl,rfl⟩
         ·cases h2
        ·split at h2
         ·split at h2
          ·cases h2
          ·simp only [Xf,Xo] at h2
           exact (hna a (by rw [h2.1];exact ha) hax).elim
         ·cases h2
       ·cases h1
      ·split at h1
       ·rename_i hi
        split at h1
        ·cases h1
        ·cases h1
         split at h2
         ·split at h2
          ·rename_i hi' hb
           simp only [Xf,Xo] at h2
           obtain ⟨a,ha,hax⟩:=X9.1 hb
           exact (hna a (by rw [← h2.1];exact ha) hax).elim
          ·cases h2
         ·split at h2
          ·rename_i hi'
           split at h2
           ·cases h2
           ·simp only [Xf,Xo] at h2
            exact ⟨by rw [hi,hi'],h2.2.symm⟩
          ·cases h2
       ·cases h1
     ·have hd:=hsim'.rel t
      rw [e2] at hd
      obtain ⟨b,arr,ty,g1,g2,g3,g4,g5,g6,g7⟩:=(show ZN P w' lim' (X' t) (cs.map (BC.den ρ')) (tm'.getD t undef) from hd)
      have hal:arr.toList.length=cs.length:=by simpa using g4
      refine ⟨.agg arr.toList.toArray,?_,?_⟩
      ·exact Vk (vs:=[.agg arr.toList.toArray]) (by rw [hrs];rfl) fun i r' v' hr' hv'=>by
        rw [hrs] at hr'
        cases i with
        | zero =>
         simp only [XK,Xf] at hr' hv'
         subst hr'
         subst hv'
         obtain ⟨i,hi⟩:=ZaS hT
         have hl2:=run_loadCells_list (P:=P) w' ⟨b,0,Xe⟩ arr.toList (fun j v hj=>by rw [Jk,Zl g3,XM];simpa using hj)
         rw [hal,hcl2] at hl2
         simp [V0,g2,asAddr,loadVar,Wa hT,Zv hi,hl2]
        | succ i => simp at hr'
      ·refine ⟨arr.toList,rfl,by rw [hal,Xi],⟨g6,fun u hu=>?_⟩,fun j x u hx hu=>?_⟩
       ·obtain ⟨j,hj⟩:=XU.1 hu
        have hlt:j < (cs.map (BC.den ρ')).length:=by rw [Xi,← hal];exact (Xn.1 hj).1
        have hr:=g7 j _ u (Xq hlt) (by simpa using hj)
        rcases g6 _ (Xy hlt) with hx | ⟨x,e,xs,hx⟩ | hx
        ·generalize (cs.map (BC.den ρ'))[j]=y at hr hx
         cases y<;>simp [AV.isCell] at hx<;>exact Rep.oneCell hr rfl
        ·rw [hx] at hr
         exact (ZY.cells1 (show ZY P w' lim' x e xs u _ from hr)).2
        ·exact (V6 hwh ρ' _ (Xy hlt) hx).elim
       ·show J9 P w' lim' ((if args.length < args.length then (if (args[args.length]?).map SV.isBx=Xa Xb then Xa (args.length,j+1) else Xe) else if args.length=args.length then (if j+1=0 then Xe else Xa (t,j+1)) else Xe:Option (Nat×Nat)).bind fun p=>X' p.1 p.2) x u
        rw [if_neg (U7 _),if_pos rfl,if_neg (by omega)]
        exact g7 j x u hx (by simpa using hu)
     ·dsimp only at hp
      split at hp
      ·split at hp
       ·cases hp;dsimp only;omega
       ·cases hp
      ·split at hp
       ·split at hp
        ·cases hp
        ·cases hp;exact htn
       ·cases hp
     ·dsimp only at hp
      rw [if_neg (U7 _),if_pos rfl] at hp
      split at hp
      ·cases hp
      ·cases hp
       show Z5 (ZO E s' ρ' t) k=_
       rw [e2]
       cases k with
       | zero => cases ho
       | succ k => exact ho
    have hlo0:∀ i k p,ZfP args fn.results.toList i k=Xa p→p.1 < ngN:=by
     intro i k p hp
     have hrs:∀ r∈fn.results.toList,Je r < ngN:=by
      intro r0 hr0
      have:Je r0 < E.top:=by
       unfold ZeA at hr
       split at hr
       ·rename_i r1 hrs
        rw [hrs,XH] at hr0
        subst hr0
        obtain ⟨x,hx,_⟩:=X9.1 hr
        exact Zcd hx
       ·obtain ⟨xs,hx,_⟩:=X9.1 hr
        exact Zch _ _ hx r0 hr0
      exact XO this (XY hnt (by decide))
     unfold ZfP at hp
     split at hp
     ·split at hp
      ·cases hp;dsimp only;omega
      ·cases hp
     ·split at hp
      ·split at hp
       ·rename_i r1 hr1
        split at hp
        ·cases hp;exact hrs r1 (by rw [hr1];simp)
        ·cases hp
       ·split at hp
        ·cases hp
        ·obtain ⟨r1,hr1,rfl⟩:=X9.1 hp
         exact hrs r1 (Xj hr1)
      ·cases hp
    have hD0:∀ k e xs,Z5 (r.den ρ') k=Xa (e,xs)→∀ p,ZfP args fn.results.toList args.length k=Xa p→Z5 (ZO E s' ρ' p.1) p.2=Xa (e,xs):=by
     intro k e xs ho p hp
     have hrow:∀ k,ZfP args fn.results.toList args.length k=match fn.results.toList with
       | [r] => if k = 0 then Xa (Je r, ZaC r) else Xe
       | rs => match k with | 0 => Xe | k + 1 => (rs[k]?).map fun r => (Je r, ZaC r) := by
      intro k
      unfold ZfP
      rw [if_neg (U7 _),if_pos rfl]
      all_goals rfl
     rw [hrow] at hp
     unfold ZeA at hr
     split at hr
     ·rename_i r1 hrs
      obtain ⟨x,hx,rfl⟩:=X9.1 hr
      rw [hrs] at hp
      dsimp only at hp
      split at hp
      ·rename_i hk
       subst hk
       cases hp
       rw [Zb4] at ho
       refine Zeg hx ?_
       cases x with
       | c y => cases y <;> cases ho
       | agg cs => cases ho
       | gone => cases ho
       | own b e' l =>
        cases b with
        | false => cases ho
        | true =>
         simp only [TC.den,Z5,Xf,Xo] at ho ⊢
         obtain ⟨rfl,rfl⟩:=ho
         rfl
      ·cases hp
     ·rename_i hne
      obtain ⟨xs1,hx,rfl⟩:=X9.1 hr
      split at hp
      ·rename_i r1 hr1;exact (hne r1 hr1).elim
      ·cases k with
       | zero => cases hp
       | succ k =>
        obtain ⟨r1,hr1,rfl⟩:=X9.1 hp
        simp only [SV.den,Z5] at ho
        split at ho
        ·rename_i e1 ys1 hk
         simp only [Xf,Xo] at ho
         obtain ⟨rfl,rfl⟩:=ho
         rw [Xl] at hk
         obtain ⟨x,hxk,hxd⟩:=X9.1 hk
         obtain ⟨r2,h1,h2⟩:=ZeD (ρ:=ρ') _ _ hx k x e1 ys1 hxk hxd
         rw [hr1] at h1
         cases h1
         exact h2
        ·cases ho
    refine ⟨r,ZfP args fn.results.toList,fun i hi k=>?_,fun i k i' k' p h1 h2=>Zo2 hfine h1 h2,?_,?_,h',hndl,hlo0,hD0⟩
    ·unfold ZfP;rw [if_pos hi]
    ·generalize (Kg (gE E s') args 0).map (SV.den ρ')=outs0
     have hrow:∀ k,ZfP args fn.results.toList args.length k=match fn.results.toList with
       | [r] => if k = 0 then Xa (Je r, ZaC r) else Xe
       | rs => match k with | 0 => Xe | k + 1 => (rs[k]?).map fun r => (Je r, ZaC r) := by
      intro k
      unfold ZfP
      rw [if_neg (U7 _),if_pos rfl]
      all_goals rfl
     unfold ZeA at hr
     split at hr
     ·rename_i r0 hrs
      cases hx:Vb P (gE E s') r0 with
      | none => simp [hx] at hr
      | some x =>
       simp only [hx,Xv,Xf] at hr
       subst hr
       rw [Zb4]
       obtain ⟨v,h1,h2⟩:=Zf2 (c:=c) rfl hsim' hx
       refine ⟨v,?_,Zh0 ?_⟩
       ·exact Vk (vs:=[v]) (by rw [hrs];rfl) fun i r' v' hr' hv'=>by
         rw [hrs] at hr'
         cases i with
         | zero =>
          simp only [XK,Xf] at hr' hv'
          subst hr'
          subst hv'
          exact h1
         | succ i => simp at hr'
       ·show J9 P w' lim' ((ZfP args fn.results.toList args.length 0).bind fun p=>X' p.1 p.2) _ v
        rw [hrow,hrs]
        exact h2
     ·rename_i hne
      cases hx:VH P (gE E s') fn.results.toList with
      | none => simp [hx] at hr
      | some xs =>
       simp only [hx,Xv,Xf] at hr
       subst hr
       obtain ⟨vs,g1,g2,g3⟩:=Zgw (c:=c) rfl hsim' _ _ hx
       have hne1:∀ v,vs≠[v]:=by
        intro v hv
        rw [hv] at g1
        obtain ⟨r',hr'⟩:=U9.1 g1
        exact hne r' hr'
       refine ⟨.tuple vs.toArray,?_,?_⟩
       ·have:=Vk g1 fun i r' v' hr' hv'=>(g3 i r' v' hr' hv').1
        rw [this]
        rcases vs with _ | ⟨v,_ | ⟨u,l⟩⟩
        ·rfl
        ·exact (hne1 v rfl).elim
        ·rfl
       ·refine ⟨vs,rfl,by simp [g2],fun i y u hy hu=>?_⟩
        rw [Xl] at hy
        cases hxi:xs[i]? with
        | none => simp [hxi] at hy
        | some x =>
         simp only [hxi,Xv,Xf] at hy
         subst hy
         obtain ⟨r',hr'⟩:∃ r',fn.results.toList[i]? = Xa r':=⟨_,Xq (by rw [g1];exact (Xn.1 hu).1)⟩
         have h3:=(g3 i r' u hr' hu).2 x hxi
         have hsrc:ZfP args fn.results.toList args.length (i+1)=Xa (Je r',ZaC r'):=by
          rw [hrow]
          split
          ·rename_i r1 hr1;exact (hne r1 hr1).elim
          ·simp [hr']
         show J9 P w' lim' ((ZfP args fn.results.toList args.length (i+1)).bind fun p=>X' p.1 p.2) _ u
         rw [hsrc]
         exact h3
    ·unfold ZeA at hr
     split at hr
     ·obtain ⟨x,_,rfl⟩:=X9.1 hr
      rw [Zb4]
      cases x with
      | c y => cases y <;> rfl
      | _ => rfl
     ·obtain ⟨x,_,rfl⟩:=X9.1 hr
      rfl
  obtain ⟨res0,hres⟩:∃ y,SV.den ρ' r=y:=⟨_,rfl⟩
  obtain ⟨outs0,houts⟩:∃ y,(Kg (gE E s') args 0).map (SV.den ρ')=y:=⟨_,rfl⟩
  have hww:=hR _ _ h'
  rw [hres,houts] at hww
  suffices hz:∃ v,(results fn tm').run P w' = .ok v w'∧
    ∃ v1 lim1 X1,Ending.returned v = .returned v1∧ZU w lim w' lim1 (fun b=>∃ i k,X i k=Xa b)∧outs0.length=(args.map (SV.den ρ)).length∧
     (∀ i,ZZ P w' lim1 X1 (ZW (outs0++[res0])) i (ZW (outs0++[res0]) i) (ZaR (args.map (SV.den ρ)).length cargs v1 i))∧Zmf X1∧
     (∀ i k b,X1 i k=Xa b→b < w'.heap.size∧((∃ i k,X i k=Xa b)∨w.heap.size≤b))∧(∀ i,(ZW (outs0++[res0]) i).isG=Xb→(ZW (args.map (SV.den ρ)) i).isG=Xb∧X1 i 0=X i 0)∧WP P outs0∧ZsE P w' lim1 X1 res0 (args.map (SV.den ρ)).length by
   obtain ⟨v,hrun,v1,lim1,X1,he,hst,hol,hr,hd,hin,hgh,hnl,hnr⟩:=hz
   obtain ⟨X3,k1,k3,k2,k4⟩:=Zep hr hww
   have hX3:∀ i k b,X3 i k=Xa b→X1 i k=Xa b:=by
    intro i k b hb
    rcases k1 i k with e | e
    ·rw [← e];exact hb
    ·rw [e] at hb;cases hb
   have hll:outs0.length=outs.length:=by have:=hww.1;simpa using this
   refine ⟨v,hrun,v1,lim1,X3,he,hst,by rw [← hll,hol],k2,Zg4 hd k1,fun i k b hb=>hin i k b (hX3 i k b hb),fun i hi=>?_,ZhU hww hnl,fun k e xs b m1 m2 m3=>?_⟩
   ·obtain ⟨m1,m2⟩:=hgh i (ZfJ hww hi)
    exact ⟨m1,by rw [k3 i (Za1 hi),m2]⟩
   ·have hal2:outs0.length=args.length:=by rw [hol,Xi]
    rw [← ZfS (aZ:=outs) (x:=res)] at m1
    have h1:=ZcZ hww m1 m2
    rw [← hll,ZfS] at h1
    rw [k4 _ (by simp;omega)]
    exact hnr k e xs b h1 m2 (hX3 _ _ _ m3)
  rw [hres,houts] at hval
  obtain ⟨v,hv1,hv2⟩:=hval
  have hol:outs0.length=args.length:=by rw [← houts,Xi,Zgb]
  have hrt:∀ i,ZaR (args.map (SV.den ρ)).length cargs v i=if i=args.length then v else cargs.getD i undef:=by
   intro i
   unfold ZaR
   rw [Xi]
  have hout:∀ i,i < args.length→ZW (outs0++[res0]) i=match args[i]? with | some a=>if a.isBx=Xb then ZO E s' ρ' i else .dead | none=>.dead:=by
   intro i hi
   simp only [ZW]
   rw [XE (by omega),← houts,Xl,Zju,XM]
   have:=Xq hi
   rw [this]
   simp only [Xv,Option.getD_some]
   split<;>rfl
  have hgpn:∀ i cs,args[i]? = Xa (.gbox cs)→X' i 0=X i 0∧(ZO E s' ρ' i).isG=Xb:=by
   intro i cs hcs
   have hri:=hrel i
   have h2:ZW (args.map (SV.den ρ)) i = .gbox (cs.map (BC.den ρ)):=by simp only [ZW,Xl,hcs];rfl
   rw [h2] at hri
   obtain ⟨v',hp⟩:=hri
   obtain ⟨b,hb,_⟩:=Km hp
   obtain ⟨g1,g2⟩:=hsim'.gpin i b (by show (match args[i]? with | some (.gbox _)=>X i 0 | _=>Xe)=_;rw [hcs];exact hb)
   exact ⟨by rw [g1,hb],g2⟩
  obtain ⟨SRC2,hS2⟩:∃ SRC2:Nat→Nat→Option (Nat×Nat),SRC2=fun i k=>if ngN≤i then Xa (i,k) else SRC i k:=⟨_,rfl⟩
  have hSlo:∀ i,i < ngN→∀ k,SRC2 i k=SRC i k:=fun i hi k=>by rw [hS2];exact if_neg (by omega)
  have hShi:∀ i,ngN≤i→∀ k,SRC2 i k=Xa (i,k):=fun i hi k=>by rw [hS2];exact if_pos hi
  have hA:∀ i,i < args.length→∀ k,SRC2 i k=if (args[i]?).map SV.isBx=Xa Xb then Xa (i,k) else Xe:=fun i hi k=>(hSlo i (by omega) k).trans (hA i hi k)
  have hB2:∀ i k i' k' p,SRC2 i k=Xa p→SRC2 i' k'=Xa p→i=i'∧k=k':=fun i k i' k' p h1 h2=>by
   rcases XD i ngN with hi | hi<;>rcases XD i' ngN with hi' | hi'
   ·rw [hSlo i hi] at h1;rw [hSlo i' hi'] at h2;exact hB i k i' k' p h1 h2
   ·rw [hSlo i hi] at h1;rw [hShi i' hi'] at h2;cases h2;have:=hlo i k _ h1;dsimp only at this;omega
   ·rw [hShi i hi] at h1;rw [hSlo i' hi'] at h2;cases h1;have:=hlo i' k' _ h2;dsimp only at this;omega
   ·rw [hShi i hi] at h1;rw [hShi i' hi'] at h2;cases h1;cases h2;exact ⟨rfl,rfl⟩
  have hdlt:∀ d,ZW (outs0++[res0]) d≠.dead→d < ngN:=fun d hd=>by
   rcases XD d ngN with h | h
   ·exact h
   ·refine (hd ?_).elim
    have:(outs0++[res0])[d]? = Xe:=Ux (by simp;omega)
    simp only [ZW,this]
    rfl
  have hv2:ZZ P w' lim' (fun i k=>(SRC2 i k).bind fun p=>X' p.1 p.2) (ZW (outs0++[res0])) args.length res0 v:=by
   have hrow:∀ i,i < ngN→(fun k=>(SRC2 i k).bind fun p=>X' p.1 p.2)=fun k=>(SRC i k).bind fun p=>X' p.1 p.2:=fun i hi=>by
    funext k;rw [hSlo i hi]
   have hat:∀ i,i < ngN→∀ k,(SRC2 i k).bind (fun p=>X' p.1 p.2)=(SRC i k).bind fun p=>X' p.1 p.2:=fun i hi k=>by rw [hSlo i hi]
   refine hv2.chg (hrow _ (by omega)) (fun d' cs hd'=>⟨⟨cs,hd'⟩,hat d' (hdlt d' (by rw [hd'];exact fun h=>by cases h)) 0⟩) (fun d' hd'=>⟨hd',hat d' (hdlt d' (by intro h;rw [h] at hd';cases hd')) 0⟩) fun d' k hr=>⟨KF.refl _ _,?_⟩
   obtain ⟨p,hp⟩:=Zf8 hv2 hr
   exact hat d' (hdlt d' (by intro h;rw [h] at hp;cases hp)) k
  have hlow2:∀ k p,SRC2 args.length k=Xa p→SRC args.length k=Xa p:=fun k p hp=>by rw [← hSlo _ hngb];exact hp
  refine ⟨v,hv1,v,lim',fun i k=>(SRC2 i k).bind fun p=>X' p.1 p.2,rfl,⟨hsim'.frm.os,hsim'.frm.tape,hsim'.frm.output,hsim'.frm.size,hsim'.frm.frz,hsim'.frm.blk,hsim'.frm.ext⟩,by rw [hol,Xi],fun i=>?_,fun d k d' k' b hb hb'=>?_,fun i k b hb=>?_,fun i hi=>?_,fun i k e xs hi=>?_,fun k e xs b m1 m2 m3=>?_⟩
  ·rw [hrt]
   rcases Ty i args.length with hi | hi | hi
   ·rw [if_neg (by omega),hout i hi]
    obtain ⟨a,ha⟩:=hcd i hi
    rw [ha]
    dsimp only
    have hrow:a.isBx=Xb→(fun k=>(SRC2 i k).bind fun p=>X' p.1 p.2)=X' i:=by
     intro hbx
     funext k
     rw [hA i hi k,ha,if_pos (by simp [hbx])]
     rfl
    cases a with
    | box cs =>
     rw [if_pos (show (SV.box cs).isBx=Xb from rfl)]
     obtain ⟨p1,cs',p2⟩:=hsim'.pin i (cargs.getD i undef) (by show (match args[i]? with | some (.box _)=>Xa (cargs.getD i undef) | _=>Xe)=_;rw [ha])
     have hrl:=hsim'.rel i
     rw [p2,p1] at hrl
     rw [p2]
     show ZN P w' lim' (fun k=>(SRC2 i k).bind fun p=>X' p.1 p.2) cs' _
     rw [hrow rfl]
     exact hrl
    | gbox cs =>
     rw [if_pos (show (SV.gbox cs).isBx=Xb from rfl)]
     obtain ⟨_,g2⟩:=hgpn i cs ha
     have hrl:=hsim'.rel i
     generalize ZO E s' ρ' i=x at g2 hrl
     cases x<;>simp [AV.isG] at g2
     obtain ⟨v',hrl⟩:=hrl
     refine ⟨v',?_⟩
     show ZN P w' lim' (fun k=>(SRC2 i k).bind fun p=>X' p.1 p.2) _ v'
     rw [hrow rfl]
     exact hrl
    | _ => exact trivial
   ·subst hi
    have hout:ZW (outs0++[res0]) args.length=res0:=by
     simp only [ZW]
     rw [XB (by omega),hol]
     simp
    rw [if_pos rfl,hout]
    exact hv2
   ·have hout:ZW (outs0++[res0]) i = .dead:=by
     simp only [ZW]
     rw [Ux (by simp;omega)]
     rfl
    rw [hout]
    trivial
  ·cases hp:SRC2 d k with
   | none => simp [hp] at hb
   | some p =>
    cases hp':SRC2 d' k' with
    | none => simp [hp'] at hb'
    | some p' =>
     simp only [hp,hp',Tm] at hb hb'
     obtain ⟨e1,e2⟩:=hsim'.dist _ _ _ _ b hb hb'
     have:p=p':=Prod.ext e1 e2
     subst this
     exact hB2 _ _ _ _ _ hp hp'
  ·cases hp:SRC2 i k with
   | none => simp [hp] at hb
   | some p =>
    simp only [hp,Tm] at hb
    exact hsim'.ours _ _ b hb
  ·rcases Ty i args.length with hl | hl | hl
   ·rw [hout i hl] at hi
    obtain ⟨a,ha⟩:=hcd i hl
    rw [ha] at hi
    dsimp only at hi
    cases a with
    | gbox cs =>
     obtain ⟨g1,g2⟩:=hgpn i cs ha
     refine ⟨by simp only [ZW,Xl,ha];rfl,?_⟩
     show (SRC2 i 0).bind (fun p=>X' p.1 p.2)=X i 0
     rw [hA i hl 0,ha,if_pos (show (Xa (SV.gbox cs)).map SV.isBx=Xa Xb from rfl)]
     exact g1
    | box cs =>
     obtain ⟨p1,cs',p2⟩:=hsim'.pin i (cargs.getD i undef) (by show (match args[i]? with | some (.box _)=>Xa (cargs.getD i undef) | _=>Xe)=_;rw [ha])
     rw [if_pos (show (SV.box cs).isBx=Xb from rfl),p2] at hi
     cases hi
    | _ => cases hi
   ·subst hl
    have hres0:ZW (outs0++[res0]) args.length=res0:=by
     simp only [ZW]
     rw [XB (by omega),hol]
     simp
    rw [hres0,← hres,hG0] at hi
    cases hi
   ·have:ZW (outs0++[res0]) i = .dead:=by
     simp only [ZW]
     rw [Ux (by simp;omega)]
     rfl
    rw [this] at hi
    cases hi
  ·cases hd:Zg P e with
   | false => rfl
   | true =>
    exfalso
    rw [← houts] at hi
    cases hg:(Kg (gE E s') args 0)[i]? with
    | none =>
     have h2:((Kg (gE E s') args 0).map (SV.den ρ'))[i]? = Xe:=by rw [Xl,hg];rfl
     simp only [ZW,h2,Option.getD_none] at hi
     cases k<;>cases hi
    | some a =>
     have h2:ZW ((Kg (gE E s') args 0).map (SV.den ρ')) i=a.den ρ':=by simp only [ZW,Xl,hg];rfl
     rw [h2] at hi
     rw [Zei (XC.1 hnd a (Xj hg)) hi] at hd
     cases hd
  ·rw [Xi] at m3
   have m3':(SRC2 args.length k).bind (fun p=>X' p.1 p.2)=Xa b:=m3
   cases hp:SRC2 args.length k with
   | none => rw [hp] at m3'; cases m3'
   | some p =>
    rw [hp] at m3'
    rw [← hres] at m1
    have h1:=hD k e xs m1 p (hlow2 k p hp)
    have h2:=hsim'.nst p.1 p.2 e xs b h1 m2 m3'
    have h3:(fun k=>(SRC2 (ngN+b) k).bind fun p=>X' p.1 p.2)=X' (ngN+b):=by
     funext k
     rw [hShi _ (XX _ _)]
     rfl
    show VK P w' lim' e xs b (fun k=>(SRC2 (ngN+b) k).bind fun p=>X' p.1 p.2)
    rw [h3]
    exact h2
 refine Zpa hm hps hnt (c:=c) rfl rfl (fun d v hv=>?_) (fun d b hb=>?_) code 0 n _ _ _ _ _ ρ _ w lim X _ ?_ h hsim ?_ ?_ ?_
 ·obtain ⟨⟨cs,hcs⟩,_⟩:=hpin d v hv
  have:=(hat d _ hcs).1 cs rfl
  rwa [XM] at this
 ·have hb':(match args[d]? with | some (.gbox _)=>X d 0 | _=>Xe)=Xa b:=hb
  split at hb'
  ·rename_i cs hcs
   have h1:=(hat d _ hcs).2.1 rfl
   have h2:=(Xn.1 hcs).1
   exact ⟨by omega,by omega⟩
  ·cases hb'
 ·refine Jb hnt _ _ hlow (fun d=>?_) (ZfZ args 0 hargs)
  unfold gE
  split<;>trivial
 ·intro s' n' ρ' A' _ hs' h' tm' w' lim' X' hsim'
  obtain ⟨g1,lim2,X2,g2⟩:=Ze3 (P:=P) (E:=E) hnt rfl (id:=1000000) (ops:=#[]) hs' hsim'
  obtain ⟨v,h1,h2⟩:=hfin _ n' ρ' A' g1 h' tm' w' lim2 X2 g2
  exact ⟨rfl,v,h1,h2⟩
 ·intro id s' n' ρ' A' _ hs' h'
  exact h'.elim
 ·intro s' n' ρ' A' _ hs' h' tm' w' lim' X' hsim'
  obtain ⟨g1,lim2,X2,g2⟩:=Ze3 (P:=P) (E:=E) hnt rfl (id:=1000000) (ops:=#[]) hs' hsim'
  obtain ⟨v,h1,h2⟩:=hfin _ n' ρ' A' g1 h' tm' w' lim2 X2 g2
  exact ⟨rfl,v,h1,h2⟩
end
end Go.AM
