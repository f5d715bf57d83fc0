import Derived.Test.YtjldbnbdcmfbmaaGreatM5
open Option renaming some→Xa,bind_some→Xd
open Bool renaming true→Xb,false→Xc,and_eq_true→Xj,or_eq_true→XF
open List renaming length_append→Xf,length→Xh,append_assoc→Xl,all_eq_true→Xo,nil_append→XM,cons_append→XV,length_drop→Un,getElem_of_mem→Uv,mem_range'_1→Ta
open Go.IntKind renaming wrap→Xi
open Nat renaming le_refl→Xr,le_trans→XX
open Option.some renaming inj→Ua
open Int renaming tmod_eq_emod_of_nonneg→UT
open Prod.mk renaming inj→U0
set_option linter.unusedVariables false
set_option linter.unusedSimpArgs false
set_option linter.defProp false
namespace Go.Proofs.YtjldbnbdcmfbmaaGreat
open Go Go.AM
set_option maxRecDepth 100000
def N35 (z:Int):Prop:=0≤z∧z < 2^35
def I35 (i:Id):Prop:=N35 i.core∧N35 i.op∧N35 i.part
def TT {a:Type} (_:a):Prop:=True
structure RR {α:Type} (c:α→List Int) (G T:α→Prop) (cs:List Int) (f:Bool) (v:α) (cs':List Int) (f':Bool):Prop where
 by':Zq cs'
 len:cs'.length≤cs.length
 adv:f'=Xc→f=Xc∧cs'.length < cs.length
 tot:T v
 post:ZJc c G cs f v cs' f'
def RR.seq {i j:Type} {l:i→List Int} {G1 T1:i→Prop} {m:j→List Int} {G2 T2:j→Prop} {cs d e:List Int} {f n o:Bool} {p:i} {q:j} (k:RR l G1 T1 cs f p d n) (g:RR m G2 T2 d n q e o) :
  RR (fun w:i×j=>l w.1++m w.2) (fun w=>G1 w.1∧G2 w.2) (fun w=>T1 w.1∧T2 w.2) cs f (p,q) e o:=by
 refine ⟨g.by',XX g.len k.len,fun h=>?_,⟨k.tot,g.tot⟩,fun w rest s r c=>?_⟩
 ·have a:=g.adv h;have b:=k.adv a.1;exact ⟨b.1,by omega⟩
 ·rw [Xl] at c;obtain ⟨t,u,v⟩:=k.post w.1 _ s r.1 c;obtain ⟨x,y,z⟩:=g.post w.2 _ v r.2 u;exact ⟨by rw [t,x],y,z⟩
def RR.map {b i:Type} {c:b→List Int} {G T:b→Prop} {c':i→List Int} {G' T':i→Prop} {cs g:List Int} {f f':Bool} {v:b} (e:b→i) (d:i→b) (h:RR c G T cs f v g f') (j:T v→T' (e v)) (k:∀ w,G' w→G (d w)∧c' w=c (d w)∧e (d w)=w) :
  RR c' G' T' cs f (e v) g f':=by
 refine ⟨h.by',h.len,h.adv,j h.tot,fun w rest l m a=>?_⟩;obtain ⟨n,o,p⟩:=k w m;rw [o] at a;obtain ⟨q,r,s⟩:=h.post _ _ l n a;exact ⟨by rw [q,p],r,s⟩
def RR.le {b:Type} {c:b→List Int} {G T:b→Prop} {cs a:List Int} {f f':Bool} {v:b} (h:RR c G T cs f v a f') {n:Nat} (d:cs.length≤n):a.length≤n:=XX h.len d
def RO {b:Type} (c:b→List Int) (G T:b→Prop) (cs:List Int) (f:Bool) {γ:Type} (d:b→LL→Bool→γ) (r:γ):Prop:=∃ (v:b) (a:List Int) (f':Bool),r=d v (Za a) f'∧RR c G T cs f v a f'
def ZmT {a b:List Int} (h:Za a=Za b):a=b:=by
 unfold Za at h;exact (List.map_inj_right fun x y e=>by simpa [u8c] using e).1 h
def VN {cs:List Int} (k:Zq cs) (f:Bool):Ret (RO nB N35 TT cs f fun v b f'=>(v,b,f')) (YZ (Za cs) f):=by
 obtain ⟨v,g,f',i,l,m,n⟩:=Zp5 k f;refine ⟨_,i,v,g,f',rfl,l,m,n,trivial,fun w rest o j d=>?_⟩;subst d;have e:=ZpN w.toNat (by have:=j.1;have:=j.2;omega) rest;have p:((w.toNat:Nat):Int)=w:=by have:=j.1;omega
 rw [o] at i;have h:=i.symm.trans e;obtain ⟨a,b⟩:=U0 (Ua h);obtain ⟨b,c⟩:=U0 b;exact ⟨a.trans p,ZmT b,c⟩
def ZAc {cs:List Int} (h:Zq cs) (f:Bool):Ret (RO idB I35 TT cs f fun v b f'=>(v.core,v.op,v.part,b,f')) (Zo8 (Za cs) f):=by
 rw [Zkb];refine Zb (VN h f) fun r ⟨a,q,j,d,e⟩=>?_;dsimp only at d;subst d;refine Zb (VN e.by' j) fun r ⟨b,s,k,d,g⟩=>?_;dsimp only at d;subst d;refine Zb (VN g.by' k) fun r ⟨c,l,m,d,n⟩=>?_;dsimp only at d;subst d;exact Zf ⟨⟨a,b,c⟩,l,m,rfl,(e.seq (g.seq n)).map (fun p=>(⟨p.1,p.2.1,p.2.2⟩:Id)) (fun i=>(i.core,i.op,i.part)) (fun _=>trivial) fun w o=>⟨o,by simp only [idB,nB,Xl],rfl⟩⟩
structure ZoG {α:Type} (c:α→List Int) (G T:α→Prop) (n:Int) (cs:List Int) (f:Bool) (vs:List α) (cs':List Int) (f':Bool):Prop where
 by':Zq cs'
 len:cs'.length≤cs.length
 adv:f'=Xc→f=Xc
 short:vs.length+cs'.length≤cs.length+1
 tot:∀ v∈vs,T v
 post:∀ (ws:List α) (rest:List Int),f=Xc→(ws.length:Int)=n→(∀ w∈ws,G w)→cs=(ws.map c).flatten++rest→vs=ws∧cs'=rest∧f'=Xc
structure LW {α:Type} (c:α→List Int) (G T:α→Prop) (n:Int) (cs:List Int) (f:Bool) (vs:List α) (cs':List Int) (f':Bool):Prop where
 by':Zq cs'
 len:cs'.length≤cs.length
 adv:f'=Xc→f=Xc
 short:vs.length+cs'.length≤cs.length+(if f'=Xb then 1 else 0)
 tot:∀ v∈vs,T v
 post:∀ (ws:List α) (rest:List Int),f=Xc→(ws.length:Int)=n→(∀ w∈ws,G w)→cs=(ws.map c).flatten++rest→vs.length≤ws.length∧vs=ws.take vs.length∧cs'=((ws.drop vs.length).map c).flatten++rest∧f'=Xc
def Zhu {E γ:Type} {P:γ→Prop} {c:E→List Int} {G T:E→Prop} {cell:E→List AV} {cs:List Int} (S:Zq cs) (hl:cs.length≤999999) {F:Nat→LL→Bool→LL→Int→Option γ} {n:Int} {f:Bool}
  (w:∀ k (a:List Int) (p:LL) (i:Nat),Zq a→a.length≤999999→p.length=i→i≤1000000→(i:Int) < n→(∀ v (o:List Int) D,RR c G T a Xc v o D→Ret P (F k (Za o) D (p++(E0++[cell v])) ((i+1:Nat):Int)))→Ret P (F (k+1) (Za a) Xc p (i:Int)))
  (y:∀ k vs (a:List Int) d (i:Nat),¬ (i:Int) < n∨d=Xb→ZoG c G T n cs f vs a d→Ret P (F (k+1) (Za a) d (vs.map cell) (i:Int))):Ret P (F Zr (Za cs) f E0 0):=by
 have fin:∀ k vs (a:List Int) d,¬ (vs.length:Int) < n∨d=Xb→LW c G T n cs f vs a d→Ret P (F (k+1) (Za a) d (vs.map cell) (vs.length:Int)):=by
  intro k vs a d j h;refine y k vs a d _ j ⟨h.by',h.len,h.adv,by have:=h.short;split at this<;>omega,h.tot,fun t rest z H A g=>?_⟩;obtain ⟨U,J,C,L⟩:=h.post t rest z H A g;rw [L] at j
  have l:vs.length=t.length:=by
   rcases j with j | j
   ·omega
   ·cases j
  rw [l,List.take_length] at J;rw [l,List.drop_length] at C;exact ⟨J,by simpa using C,L⟩
 have M:∀ (m k:Nat) (vs:List E) (a:List Int) (d:Bool),(d=Xc→a.length < m)→m+1 < k→LW c G T n cs f vs a d→Ret P (F k (Za a) d (vs.map cell) (vs.length:Int)):=by
  intro m
  induction m with
  | zero =>
   intro k vs a d N W h;obtain ⟨q,rfl⟩:∃ q,k=q+1:=⟨k-1,by omega⟩
   cases d with
   | true => exact fin q vs a Xb (.inr rfl) h
   | false => exact absurd (N rfl) (by omega)
  | succ m ih =>
   intro k vs a d N W h;obtain ⟨q,rfl⟩:∃ q,k=q+1:=⟨k-1,by omega⟩
   cases d with
   | true => exact fin q vs a Xb (.inr rfl) h
   | false =>
    by_cases hi:(vs.length:Int) < n
    ·have O:=h.adv rfl;have X:=h.short;rw [P3 (by decide)] at X;have l:=h.len;refine w q a _ vs.length h.by' (by omega) (List.length_map _) (by omega) hi fun v o D u=>?_
     have Q:vs.map cell++(E0++[cell v])=(vs++[v]).map cell:=by simp
     have R:((vs.length+1:Nat):Int)=((vs++[v]).length:Int):=by simp
     rw [Q,R];have Y:=u.len;refine ih q _ o D (fun Z=>by have:=(u.adv Z).2;have:=N rfl;omega) (by omega) ⟨u.by',by omega,fun _=>O,?_,fun x j=>?_,fun t rest z H A g=>?_⟩
     ·rw [Xf,List.length_singleton]
      cases D with
      | true => rw [P4 rfl]; omega
      | false => rw [P3 (by decide)]; have := (u.adv rfl).2; omega
     ·rcases List.mem_append.1 j with j | j
      ·exact h.tot x j
      ·rw [List.mem_singleton.1 j];exact u.tot
     ·obtain ⟨U,J,C,L⟩:=h.post t rest z H A g;have s:vs.length < t.length:=by omega
      rw [List.drop_eq_getElem_cons s,List.map_cons,List.flatten_cons,Xl] at C;obtain ⟨e,r,b⟩:=u.post _ _ rfl (A _ (List.getElem_mem s)) C;rw [Xf,List.length_singleton];refine ⟨by omega,?_,r,b⟩;rw [List.take_add_one,List.getElem?_eq_getElem s,e,Option.toList_some,← J]
    ·exact fin q vs a Xc (.inl hi) h
 have O:LW c G T n cs f [] cs f:=⟨S,Xr _,fun h=>h,by simp,by simp,fun t rest z H A g=>⟨by simp,by simp,by simpa using g,z⟩⟩;exact M (cs.length+1) Zr [] cs f (fun _=>by omega) (JW (by omega)) O
def ZoG.list {i:Type} {c:i→List Int} {G T:i→Prop} {cs e g:List Int} {n:Int} {f o p:Bool} {vs:List i} (z:cs.length≤999999) (s:∀ w,G w→1≤(c w).length) (j:RR nB N35 TT cs f n e o) (d:ZoG c G T n e o vs g p):RR (Zs c) (GL G) (TL T 1000000) cs f vs g p:=by
 have q:=j.len;have k:=d.len;refine ⟨d.by',by omega,fun h=>?_,⟨by have:=d.short;omega,d.tot⟩,fun l rest t r b=>?_⟩
 ·have a:=j.adv (d.adv h);exact ⟨a.1,by omega⟩
 ·rw [Zs,Xl] at b;have u:=Zkk s l r.2;have m:=congrArg Xh b;rw [Xf,Xf] at m;obtain ⟨v,x,y⟩:=j.post (l.length:Int) _ t ⟨by omega,by omega⟩ b;exact d.post l rest y v.symm r.2 x
def Zbt {γ:Type} {P:γ→Prop} {i n:Int} {b:Bool} {x y:Option γ} (h:¬ i < n∨b=Xb) (a:Ret P y):Ret P (if P0 .lss i n=Xb then (if (!b)=Xb then x else y) else y):=by
 refine Zo (fun d=>Zo (fun c=>?_) fun _=>a) fun _=>a;rcases h with h | h
 ·exact absurd (by simpa [P0] using d) h
 ·rw [h] at c;cases c
def Zgv {γ:Type} {P:γ→Prop} {i n:Int} {x y:Option γ} (h:i < n) (a:Ret P x):Ret P (if P0 .lss i n=Xb then (if (!false)=Xb then x else y) else y):=
 Zc (P4 (by simpa [P0] using h)) (Zc (P4 rfl) a)
def ZsA (cs:List Int) (b:Bool) (n:Int):ZpV (Za cs) b n=Xa (if b=Xb∨n < 0∨(cs.length:Int) < n then (E0,Za cs,Xb) else (Za (cs.take n.toNat),Za (cs.drop n.toNat),Xc)):=by
 rw [Zra,ZB]
 cases b with
 | true => rw [P4 rfl, P4 (.inl rfl)]
 | false =>
  rw [P3 (by decide)];by_cases h1:n < 0
  ·rw [P4 (by simpa [P0] using h1),P4 (.inr (.inl h1))]
  ·rw [P3 (by simpa [P0] using h1)];by_cases h2:(cs.length:Int) < n
   ·rw [P4 (by simpa [P0] using h2),P4 (.inr (.inr h2))]
   ·rw [P3 (by simpa [P0] using h2),Zg (by omega),Zg (by omega),Zg (by omega),Zg (by omega),P3 (fun h=>by rcases h with h | h | h;cases h;exact h1 h;exact h2 h),Zfy];simp [Za,List.map_take]
def ZFG (cs:List Int) (n:Int):ZpV (Za cs) Xb n=Xa (E0,Za cs,Xb):=by
 rw [ZsA,P4 (.inl rfl)]
def ZHN:ZpV (Za []) Xc 1=Xa (E0,Za [],Xb):=by
 rw [ZsA,P4 (.inr (.inr (by decide)))]
def Zs4 (c:Int) (cs:List Int):ZpV (Za (c::cs)) Xc 1=Xa (Za [c],Za cs,Xc):=by
 rw [ZsA,P3 (fun h=>by rcases h with h | h | h<;>simp at h<;>omega)];rfl
def Zwv {a:Nat} (h:a < 2^64):P1 .xor .u64 18446744073709551615 (a:Int)=((18446744073709551615-a:Nat):Int):=by
 have b:(2:Nat)^64=18446744073709551616:=by decide
 rw [ZnY,Zi4,BitVec.allOnes_xor,BitVec.toNat_not,BitVec.toNat_ofInt]
 have c:((a:Int) % ((2^64:Nat):Int)).toNat=a:=by
  rw [show ((2^64:Nat):Int)=18446744073709551616 by decide];omega
 rw [c]
def ZsM {a:Nat} (h:a < 2^63):Xi .i64 ((18446744073709551615-a:Nat):Int) = -(a:Int)-1:=by
 have b:(2:Nat)^63=9223372036854775808:=by decide
 simp only [Xi,show IntKind.i64.signed=Xb from rfl,show IntKind.i64.bits=64 from rfl];simp only [Bool.true_and,P5];rw [show (2:Int)^64=18446744073709551616 by decide,show (2:Int)^(64-1)=9223372036854775808 by decide];split<;>omega
def ZxF {w:Nat} : P1 .rem .u64 (w:Int) 2=((w % 2:Nat):Int):=by
 show (w:Int).tmod 2=_;rw [UT (by omega)];omega
def ZmX {γ:Type} {w:Nat} (a:w < 2^64) (k:Int→Option γ):(Zy ((2:Int)≠0)<|if (P0 .eql (P1 .rem .u64 (w:Int) 2) 1)=Xb then Zy ((0:Int)≤1)<|k (Xi .i64 (P1 .xor .u64 18446744073709551615 (P1 .shr .u64 (w:Int) 1))) else Zy ((0:Int)≤1)<|k (Xi .i64 (P1 .shr .u64 (w:Int) 1)))=k (svV w):=by
 have b:(2:Nat)^63=9223372036854775808:=by decide
 have c:(2:Nat)^64=18446744073709551616:=by decide
 rw [Zg (by decide),Zg (by decide),Zg (by decide),ZpE a,ZxF,Zwv (by omega),ZsM (by omega),YK (by omega) (by omega)];unfold svV;by_cases h:w % 2=1
 ·rw [P4 (by rw [h];rfl),P4 h]
 ·rw [P3 (by simp [P0];omega),P3 h]
def ZqQ (z:Int):∃ w:Nat,Xi .u64 z=w∧w < 2^64:=by
 obtain ⟨c,d⟩:=ZjL z;have b:(2:Nat)^64=18446744073709551616:=by decide
 have a:(2:Int)^64=18446744073709551616:=by decide
 exact ⟨(Xi .u64 z).toNat,by omega,by omega⟩
def ZHl:∀ (j i a:Nat) (cs:List Int) (b:Bool) (d:Nat),10=i+j→j < a→Zq cs→d < 2^64→
  ∃ v e bad,ZiK a (Za cs) b (d:Int) (i:Int)=Xa (v,Za e,bad)∧Rng v∧Zq e∧e.length≤cs.length∧(bad=Xc→b=Xc∧(0 < j→e.length < cs.length)):=by
 intro j
 induction j with
 | zero =>
  intro i a cs b d h p k m;obtain ⟨f,rfl⟩:∃ f,a=f+1:=⟨a-1,by omega⟩;refine ⟨svV d,cs,b,?_,Zk4 m,k,Xr _,fun h=>⟨h,fun h=>absurd h (by omega)⟩⟩;rw [WT,P3 (by simp only [CQ];omega)];exact ZmX m fun v=>Xa (v,Za cs,b)
 | succ j ih =>
  intro i a cs b d h p k m;obtain ⟨f,rfl⟩:∃ f,a=f+1:=⟨a-1,by omega⟩;have o:Rng 0:=⟨by decide,by decide⟩;rw [WT,P4 (by simp only [CQ];omega)]
  cases b with
  | true => exact ⟨0, cs, Xb, by rw [ZFG, Xd]; exact P4 rfl, o, k, Xr _, fun h => by cases h⟩
  | false =>
   cases cs with
   | nil => exact ⟨0, [], Xb, by rw [ZHN, Xd]; exact P4 rfl, o, k, Xr _, fun h => by cases h⟩
   | cons c cs =>
    have l:Zq cs:=fun z q=>k z (by simp [q]);have r:P1 .add .i64 (i:Int) 1=((i+1:Nat):Int):=by rw [JE (by omega) (by omega)];omega
    have s:Xi .u64 (P1 .mul .i64 7 (i:Int))=((7*i:Nat):Int):=by
     rw [Zfd (by omega) (by omega),Jc (by omega) (by omega)];omega
    rw [Zs4,Xd];dsimp only;rw [P3 (by decide),ZC (z:=c) _ (by decide) rfl,Zg (by decide),s,Zg (by omega),ZC (z:=c) _ (by decide) rfl,r];obtain ⟨w,t,g⟩:=ZqQ ((d:Int)+P1 .shl .u64 (Xi .u64 (P1 .rem .u8 c 128)) ((7*i:Nat):Int));have n:P1 .add .u64 (d:Int) (P1 .shl .u64 (Xi .u64 (P1 .rem .u8 c 128)) ((7*i:Nat):Int))=(w:Int):=t;rw [n];by_cases hc:P0 .lss c 128=Xb
    ·rw [P4 hc];exact ⟨svV w,cs,Xc,ZmX g fun v=>Xa (v,Za cs,Xc),Zk4 g,l,by simp,fun _=>⟨rfl,fun _=>by simp⟩⟩
    ·obtain ⟨v,e,bad,u,x,y,A,C⟩:=ih (i+1) f cs Xc w (by omega) (by omega) l g;exact ⟨v,e,bad,by rw [P3 hc];exact u,x,y,by simp;omega,fun D=>⟨rfl,fun _=>by simp;omega⟩⟩
def Zvh {c i:Nat} (h:c*2^(7*i) < 2^64) (d:i≤9):P1 .shl .u64 (c:Int) ((7*i:Nat):Int)=((c*2^(7*i):Nat):Int):=by
 have a:min (((7*i:Nat):Int)).toNat IntKind.u64.bits=7*i:=by
  have:IntKind.u64.bits=64:=rfl;omega
 have e:(c:Int)*2^(7*i)=((c*2^(7*i):Nat):Int):=by
  rw [Int.natCast_mul,Int.natCast_pow];rfl
 have b:((2^64:Nat):Int)=(2:Int)^64:=by decide
 show Xi .u64 ((c:Int)*2^(min (((7*i:Nat):Int)).toNat IntKind.u64.bits))=_;rw [a,e,Jc (by omega) (by omega)]
def ZG5:∀ (m v i b a:Nat) (r:List Int),v < 128^(m+1)→i+m≤9→m+1 < b→a+v*2^(7*i) < 2^64→
  ZiK b (Za (uv v++r)) Xc (a:Int) (i:Int)=Xa (svV (a+v*2^(7*i)),Za r,Xc):=by
 have s:(2:Nat)^64=18446744073709551616:=by decide
 have o:(2:Int)^64=18446744073709551616:=by decide
 intro m
 induction m with
 | zero =>
  intro v i b a r d k t u;obtain ⟨f,rfl⟩:∃ f,b=f+1:=⟨b-1,by omega⟩;have d:v < 128:=by simpa using d
  have e:Xi .u64 (P1 .mul .i64 7 (i:Int))=((7*i:Nat):Int):=by rw [Zfd (by omega) (by omega),Jc (by omega) (by omega)];omega
  have g:Xi .u64 (P1 .rem .u8 (v:Int) 128)=((v:Nat):Int):=by
   show Xi .u64 ((v:Int).tmod 128)=_;rw [UT (by omega),Jc (by omega) (by omega)];omega
  have c:P1 .add .u64 (a:Int) ((v*2^(7*i):Nat):Int)=((a+v*2^(7*i):Nat):Int):=by
   show Xi .u64 ((a:Int)+_)=_;rw [Jc (by omega) (by omega)];omega
  rw [Y6 (by omega),P4 d,XV,XM,WT,P4 (by simp only [CQ];omega),Zs4,Xd];dsimp only;rw [P3 (by decide),ZC (z:=(v:Int)) _ (by decide) rfl,Zg (by decide),e,Zg (by omega),ZC (z:=(v:Int)) _ (by decide) rfl,g,Zvh (by omega) (by omega),c,P4 (by simp only [CQ];omega)];exact ZmX (by omega) fun z=>Xa (z,Za r,Xc)
 | succ m ih =>
  intro v i b a r d k t u;by_cases hs:v < 128
  ·have e:Xi .u64 (P1 .mul .i64 7 (i:Int))=((7*i:Nat):Int):=by rw [Zfd (by omega) (by omega),Jc (by omega) (by omega)];omega
   obtain ⟨f,rfl⟩:∃ f,b=f+1:=⟨b-1,by omega⟩
   have g:Xi .u64 (P1 .rem .u8 (v:Int) 128)=((v:Nat):Int):=by
    show Xi .u64 ((v:Int).tmod 128)=_;rw [UT (by omega),Jc (by omega) (by omega)];omega
   have c:P1 .add .u64 (a:Int) ((v*2^(7*i):Nat):Int)=((a+v*2^(7*i):Nat):Int):=by
    show Xi .u64 ((a:Int)+_)=_;rw [Jc (by omega) (by omega)];omega
   rw [Y6 (by omega),P4 hs,XV,XM,WT,P4 (by simp only [CQ];omega),Zs4,Xd];dsimp only;rw [P3 (by decide),ZC (z:=(v:Int)) _ (by decide) rfl,Zg (by decide),e,Zg (by omega),ZC (z:=(v:Int)) _ (by decide) rfl,g,Zvh (by omega) (by omega),c,P4 (by simp only [CQ];omega)];exact ZmX (by omega) fun z=>Xa (z,Za r,Xc)
  ·obtain ⟨f,rfl⟩:∃ f,b=f+1:=⟨b-1,by omega⟩
   have l:v / 128 < 128^(m+1):=by
    rw [Nat.pow_succ] at d;exact Nat.div_lt_of_lt_mul (by omega)
   have n:1≤2^(7*i):=Nat.one_le_two_pow;have p:v≤v*2^(7*i):=Nat.le_mul_of_pos_right _ n;have w:P1 .add .i64 (i:Int) 1=((i+1:Nat):Int):=by rw [JE (by omega) (by omega)];omega
   have e:Xi .u64 (P1 .mul .i64 7 (i:Int))=((7*i:Nat):Int):=by rw [Zfd (by omega) (by omega),Jc (by omega) (by omega)];omega
   have g:Xi .u64 (P1 .rem .u8 ((v % 128+128:Nat):Int) 128)=((v % 128:Nat):Int):=by
    show Xi .u64 (((v % 128+128:Nat):Int).tmod 128)=_;rw [UT (by omega),Jc (by omega) (by omega)];omega
   have q:v % 128*2^(7*i)≤v*2^(7*i):=Nat.mul_le_mul_right _ (Nat.mod_le _ _)
   have c:P1 .add .u64 (a:Int) ((v % 128*2^(7*i):Nat):Int)=((a+v % 128*2^(7*i):Nat):Int):=by
    show Xi .u64 ((a:Int)+_)=_;rw [Jc (by omega) (by omega)];omega
   have h:(2:Nat)^(7*(i+1))=128*2^(7*i):=by
    rw [show 7*(i+1)=7*i+7 by omega,Nat.pow_add,Nat.mul_comm]
   have j:a+v % 128*2^(7*i)+v / 128*2^(7*(i+1))=a+v*2^(7*i):=by
    rw [h,← Nat.mul_assoc,Nat.add_assoc,← Nat.add_mul];congr 2;omega
   rw [Y6 (by omega),P3 hs,XV,WT,P4 (by simp only [CQ];omega),Zs4,Xd];dsimp only
   rw [P3 (by decide),ZC (z:=((v % 128+128:Nat):Int)) _ (by decide) rfl,Zg (by decide),e,Zg (by omega),ZC (z:=((v % 128+128:Nat):Int)) _ (by decide) rfl,g,Zvh (by omega) (by omega),c,P3 (by simp only [CQ];omega),w,
    ih (v / 128) (i+1) f _ r l (by omega) (by omega) (by omega),j]
def ZoJ {cs:List Int} (m:Zq cs) (f:Bool):Ret (RO sgB Rng Rng cs f fun v b f'=>(v,b,f')) (ZHR (Za cs) f):=by
 rw [ZvG];obtain ⟨v,g,f',j,n,o,p,k⟩:=ZHl 10 0 Zr cs f 0 rfl (JW (by decide)) m (by decide);refine ⟨_,j,v,g,f',rfl,o,p,fun h=>⟨(k h).1,(k h).2 (by omega)⟩,n,fun w rest q r d=>?_⟩;subst d;subst q;have t:=ZaS w;have l:(2:Int)^64=18446744073709551616:=by decide
 have i:(128:Nat)^10=1180591620717411303424:=by decide
 have s:(2:Nat)^64=18446744073709551616:=by decide
 have e:=ZG5 9 (sgV w).toNat 0 Zr 0 rest (by rw [i];omega) (by omega) (JW (by decide)) (by simp;omega);have h:=j.symm.trans e;obtain ⟨a,b⟩:=U0 (Ua h);obtain ⟨b,c⟩:=U0 b;rw [show 0+(sgV w).toNat*2^(7*0)=(sgV w).toNat by simp,Zt1 r] at a;exact ⟨a,ZmT b,c⟩
def ZKu {cs:List Int} (D:Zq cs) (f:Bool):Ret (RO ZeV TC TC cs f fun (v:Call) b f'=>(v.kind,v.slot,v.dest,v.core,v.mask,v.object,v.bits,v.level,v.offset,v.count,v.index,v.addr,b,f')) (ZFe (Za cs) f):=by
 obtain ⟨q,E⟩:∃ q,Zr=q+13:=⟨Zr-13,by have:=JW (n:=20) (by decide);omega⟩;rw [Zus,E];refine Zc (Yj ..) (Zc (P4 (by kernel_rfl)) ?_);refine Zb (ZoJ D f) fun r ⟨G,c0,H,a,m⟩=>?_;dsimp only at a;subst a;refine Zc (P4 (by kernel_rfl)) ?_;refine Zc (Yj ..) (Zc (P4 (by kernel_rfl)) ?_);refine Zb (ZoJ m.by' H) fun r ⟨J,c1,L,a,o⟩=>?_;dsimp only at a;subst a;refine Zc (P3 (Zt (by kernel_rfl))) ?_;refine Zc (P4 (by kernel_rfl)) ?_;refine Zc (Yj ..) (Zc (P4 (by kernel_rfl)) ?_);refine Zb (ZoJ o.by' L) fun r ⟨M,c2,N,a,s⟩=>?_;dsimp only at a;subst a;refine Zc (P3 (Zt (by kernel_rfl))) ?_;refine Zc (P3 (Zt (by kernel_rfl))) ?_;refine Zc (P4 (by kernel_rfl)) ?_;refine Zc (Yj ..) (Zc (P4 (by kernel_rfl)) ?_);refine Zb (ZoJ s.by' N) fun r ⟨O,c3,Q,a,t⟩=>?_;dsimp only at a;subst a
 iterate 3 refine Zc (P3 (Zt (by kernel_rfl))) ?_
 refine Zc (P4 (by kernel_rfl)) ?_;refine Zc (Yj ..) (Zc (P4 (by kernel_rfl)) ?_);refine Zb (ZoJ t.by' Q) fun r ⟨R,c4,S,a,u⟩=>?_;dsimp only at a;subst a
 iterate 4 refine Zc (P3 (Zt (by kernel_rfl))) ?_
 refine Zc (P4 (by kernel_rfl)) ?_;refine Zc (Yj ..) (Zc (P4 (by kernel_rfl)) ?_);refine Zb (ZoJ u.by' S) fun r ⟨T,c5,U,a,x⟩=>?_;dsimp only at a;subst a
 iterate 5 refine Zc (P3 (Zt (by kernel_rfl))) ?_
 refine Zc (P4 (by kernel_rfl)) ?_;refine Zc (Yj ..) (Zc (P4 (by kernel_rfl)) ?_);refine Zb (ZoJ x.by' U) fun r ⟨W,c6,X,a,y⟩=>?_;dsimp only at a;subst a
 iterate 6 refine Zc (P3 (Zt (by kernel_rfl))) ?_
 refine Zc (P4 (by kernel_rfl)) ?_;refine Zc (Yj ..) (Zc (P4 (by kernel_rfl)) ?_);refine Zb (ZoJ y.by' X) fun r ⟨Y,c7,Z,a,z⟩=>?_;dsimp only at a;subst a
 iterate 7 refine Zc (P3 (Zt (by kernel_rfl))) ?_
 refine Zc (P4 (by kernel_rfl)) ?_;refine Zc (Yj ..) (Zc (P4 (by kernel_rfl)) ?_);refine Zb (ZoJ z.by' Z) fun r ⟨v8,c8,f8,a,A⟩=>?_;dsimp only at a;subst a
 iterate 8 refine Zc (P3 (Zt (by kernel_rfl))) ?_
 refine Zc (P4 (by kernel_rfl)) ?_;refine Zc (Yj ..) (Zc (P4 (by kernel_rfl)) ?_);refine Zb (ZoJ A.by' f8) fun r ⟨v9,c9,f9,a,C⟩=>?_;dsimp only at a;subst a
 iterate 9 refine Zc (P3 (Zt (by kernel_rfl))) ?_
 refine Zc (P4 (by kernel_rfl)) ?_;refine Zc (Yj ..) (Zc (P4 (by kernel_rfl)) ?_);refine Zb (ZoJ C.by' f9) fun r ⟨e,aa,g,a,d⟩=>?_;dsimp only at a;subst a
 iterate 10 refine Zc (P3 (Zt (by kernel_rfl))) ?_
 refine Zc (P4 (by kernel_rfl)) ?_;refine Zc (Yj ..) (Zc (P4 (by kernel_rfl)) ?_);refine Zb (ZoJ d.by' g) fun r ⟨i,j,k,a,l⟩=>?_;dsimp only at a;subst a
 iterate 11 refine Zc (P3 (Zt (by kernel_rfl))) ?_
 refine Zl (of_decide_eq_true (by kernel_rfl)) (Zl (of_decide_eq_true (by kernel_rfl)) ?_);refine Zc (Yj ..) (Zc (P3 (Zt (by kernel_rfl))) ?_)
 exact Zf ⟨⟨G,J,M,O,R,T,W,Y,v8,v9,e,i⟩,j,k,rfl,(m.seq (o.seq (s.seq (t.seq (u.seq (x.seq (y.seq (z.seq (A.seq (C.seq (d.seq l))))))))))).map
  (fun p=>(⟨p.1,p.2.1,p.2.2.1,p.2.2.2.1,(d4 p).1,(d4 p).2.1,(d6 p).1,(d6 p).2.1,(d8 p).1,(d8 p).2.1,(df p).1,p.2.2.2.2.2.2.2.2.2.2.2⟩:Call))
  (fun c=>(c.kind,c.slot,c.dest,c.core,c.mask,c.object,c.bits,c.level,c.offset,c.count,c.index,c.addr)) (fun h=>(ZjX _).2 h) fun w hw=>⟨(ZjX w).1 hw,by simp [ZeV,Yu],rfl⟩⟩
def ZDh {cs:List Int} (E:Zq cs) (H:cs.length≤999999) (f:Bool):Ret (RO YA Yw TN cs f fun (v:Yc) b f'=>(v.id.core,v.id.op,v.id.part,Ze v.path,v.cap.kind,v.cap.base,v.cap.bits,v.cap.rights,v.cap.width,v.cap.level,v.cap.device,b,f')) (Zyz (Za cs) f):=by
 rw [Zw0];refine Zb (VN E f) fun r ⟨n,d,o,C,h⟩=>?_;dsimp only at C;subst C;have i:=h.len
 have l:∀ (w:Yc) rest,f=Xc→cs=YA w++rest→n=((Yp w).length:Int)∧d=Yp w++rest∧o=Xc:=fun w rest c a=>by
  rw [YA,Xl] at a;have:=Wd w;exact h.post _ _ c ⟨by omega,by omega⟩ a
 have t:ZD Z5=Xc:=by decide
 have m:TN Z5:=by simp [TN,Z5]
 refine Zo (fun s=>Zf ⟨Z5,d,o,rfl,⟨h.by',i,h.adv,m,fun w rest c g a=>?_⟩⟩) fun s=>?_
 ·simp only [CQ] at s;obtain ⟨e,r,b⟩:=l w rest c a;have j:(Yp w).length=0:=by omega
  rcases g with hw | hw
  ·rw [Yp,P4 hw] at j;exact absurd j (Zdt w)
  ·rw [List.eq_nil_of_length_eq_zero j] at r;exact ⟨hw.symm,r,b⟩
 simp only [CQ] at s;dsimp only;have G:E0=Za []:=rfl;refine Jb (ZsA d o n) ?_;by_cases hbad:o=Xb∨n < 0∨(d.length:Int) < n
 ·rw [P4 hbad]
  have bad:∀ w rest,f=Xc→Yw w→cs=YA w++rest→False:=fun w rest c g a=>by
   obtain ⟨e,r,b⟩:=l w rest c a;have u:=congrArg Xh r;rw [Xf] at u;rcases hbad with h | h | h
   ·rw [b] at h;cases h
   ·omega
   ·omega
  dsimp only;rw [G];refine Jb (ZIF (fun z j=>absurd j (by simp)) (by simp)) ?_
  cases hd:Zkj [] with
  | none => exact Zc (P4 (by simp [Y4, P0])) (Zf ⟨Z5, d, Xb, rfl, ⟨h.by', i, fun h => (by cases h), m, fun w rest c g a => (bad w rest c g a).elim⟩⟩)
  | some x =>
   refine Zc (P3 (by simp [Y4,P0])) (Zf ⟨x,d,Xb,rfl,⟨h.by',i,fun h=>(by cases h),Zg6 (fun z j=>absurd j (by simp)) hd,fun w rest c g a=>(bad w rest c g a).elim⟩⟩)
 ·rw [P3 hbad];have y:o=Xc:=by cases o<;>simp at hbad ⊢
  have J:0≤n∧n≤(d.length:Int):=⟨by omega,by omega⟩;have p:Zq (d.take n.toNat):=fun z j=>h.by' z (List.mem_of_mem_take j)
  have q:Zq (d.drop n.toNat):=fun z j=>h.by' z (List.mem_of_mem_drop j)
  have A:=h.adv y
  have k:∀ (w:Yc) rest,f=Xc→Yw w→cs=YA w++rest→Zkj (d.take n.toNat)=Xa w∧d.drop n.toNat=rest:=fun w rest c g a=>by
   obtain ⟨e,r,b⟩:=l w rest c a;have D:n.toNat=(Yp w).length:=by omega
   rcases g with hw | hw
   ·refine ⟨?_,by rw [r,D,List.drop_left]⟩;rw [r,D,List.take_left,Yp,P4 hw];exact Zba hw
   ·rw [hw,Yp,P3 (by rw [t];decide)] at e;exact absurd e s
  dsimp only;refine Jb (ZIF p (by rw [List.length_take];omega)) ?_
  cases hd:Zkj (d.take n.toNat) with
  | none =>
   refine Zc (P4 (by simp [Y4,P0])) (Zf ⟨Z5,d.drop n.toNat,Xb,rfl,⟨q,by rw [Un];omega,fun h=>(by cases h),m,fun w rest c g a=>?_⟩⟩);obtain ⟨e,_⟩:=k w rest c g a;rw [hd] at e;cases e
  | some x =>
   refine Zc (P3 (by simp [Y4,P0])) (Zf ⟨x,d.drop n.toNat,Xc,rfl,⟨q,by rw [Un];omega,fun _=>⟨A.1,by rw [Un];omega⟩,Zg6 p hd,fun w rest c g a=>?_⟩⟩);obtain ⟨e,r⟩:=k w rest c g a;rw [hd] at e;exact ⟨Ua e,r,rfl⟩
def ZsL (r:Req):Prop:=I35 r.id∧TC r.call∧N35 r.region∧N35 r.width∧Yw r.src
def ZIu {cs:List Int} (l:Zq cs) (m:cs.length≤999999) (f:Bool):Ret (RO Wz ZsL TR cs f fun (v:Req) b f'=>(v.id.core,v.id.op,v.id.part,v.call.kind,v.call.slot,v.call.dest,v.call.core,v.call.mask,v.call.object,v.call.bits,v.call.level,v.call.offset,v.call.count,v.call.index,v.call.addr,v.region,v.width,v.src.id.core,v.src.id.op,v.src.id.part,Ze v.src.path,v.src.cap.kind,v.src.cap.base,v.src.cap.bits,v.src.cap.rights,v.src.cap.width,v.src.cap.level,v.src.cap.device,b,f')) (Zz8 (Za cs) f):=by
 rw [Zwo];refine Zb (ZAc l f) fun r ⟨i,A,o,d,e⟩=>?_;dsimp only at d;subst d;refine Zb (ZKu e.by' o) fun r ⟨c,C,q,d,g⟩=>?_;dsimp only at d;subst d;refine Zb (VN g.by' q) fun r ⟨a,D,s,d,j⟩=>?_;dsimp only at d;subst d;refine Zb (VN j.by' s) fun r ⟨b,E,t,d,k⟩=>?_;dsimp only at d;subst d;refine Zb (ZDh k.by' (k.le (j.le (g.le (e.le m)))) t) fun r ⟨n,u,x,d,y⟩=>?_;dsimp only at d;subst d
 exact Zf ⟨⟨i,c,a,b,n⟩,u,x,rfl,(e.seq (g.seq (j.seq (k.seq y)))).map (fun p=>(⟨p.1,p.2.1,p.2.2.1,p.2.2.2.1,p.2.2.2.2⟩:Req)) (fun r=>(r.id,r.call,r.region,r.width,r.src)) (fun h=>⟨h.2.1,h.2.2.2.2⟩)
  fun w z=>⟨z,by simp [Wz],rfl⟩⟩
def ZyQ {cs:List Int} (m:Zq cs) (g:cs.length≤999999) (f:Bool):Ret (RO (Zs nB) (GL N35) (TL TT 1000000) cs f fun (v:List Int) b f'=>(Zd v,b,f')) (Zrw (Za cs) f):=by
 rw [ZuE];refine Zb (VN m f) fun r ⟨n,C,o,a,h⟩=>?_;dsimp only at a;subst a;refine Zhu (c:=nB) (G:=N35) (T:=TT) (cell:=WS) h.by' (h.le g) (n:=n) (f:=o) (F:=fun k b f d i=>Zm9 k b f d n i) (fun k j d i e p l q s ih=>?_) (fun k vs j t i u x=>?_)
 ·refine Zc (Zjl ..) (Zgv s ?_);refine Zb (VN e Xc) fun r ⟨v,y,z,a,A⟩=>?_;dsimp only at a;subst a;refine Zl (Jn (by simp;omega) (by omega)) ?_;rw [ZS (n:=i+1) (by omega) (by omega)];exact ih v y z A
 ·exact Zc (Zjl ..) (Zbt u (Zf ⟨vs,j,t,rfl,ZoG.list g (fun w _=>by have:=VK w;omega) h x⟩))
def ZCK (v:Vu):Prop:=N35 v.number∧GL N35 v.members∧GL N35 v.owners
def ZIx {cs:List Int} (m:Zq cs) (g:cs.length≤999999) (f:Bool):Ret (RO (Zs idB) (GL I35) (TL TT 1000000) cs f fun (v:List Id) b f'=>(Ze v,b,f')) (Zx5 (Za cs) f):=by
 rw [ZuI];refine Zb (VN m f) fun r ⟨n,C,o,a,h⟩=>?_;dsimp only at a;subst a;refine Zhu (c:=idB) (G:=I35) (T:=TT) (cell:=idc) h.by' (h.le g) (n:=n) (f:=o) (F:=fun k b f d i=>Zl6 k b f d n i) (fun k j d i e p l q s ih=>?_) (fun k vs j t i u x=>?_)
 ·refine Zc (ZhO ..) (Zgv s ?_);refine Zb (ZAc e Xc) fun r ⟨v,y,z,a,A⟩=>?_;dsimp only at a;subst a;refine Zl (Jn (by simp;omega) (by omega)) ?_;rw [ZS (n:=i+1) (by omega) (by omega)];exact ih v y z A
 ·exact Zc (ZhO ..) (Zbt u (Zf ⟨vs,j,t,rfl,ZoG.list g (fun w _=>Zqb w) h x⟩))
def ZIT {cs:List Int} (o:Zq cs) (j:cs.length≤999999) (f:Bool):Ret (RO (Zs YA) (GL Yw) (TL TN 1000000) cs f fun (v:List Yc) b f'=>(v.map YM,b,f')) (Zx3 (Za cs) f):=by
 rw [ZuJ];refine Zb (VN o f) fun r ⟨n,C,p,a,h⟩=>?_;dsimp only at a;subst a;refine Zhu (c:=YA) (G:=Yw) (T:=TN) (cell:=YM) h.by' (h.le j) (n:=n) (f:=p) (F:=fun k b f d i=>ZlW k b f d n i) (fun k l d i e g m q s ih=>?_) (fun k vs l t i u x=>?_)
 ·refine Zc (ZjP ..) (Zgv s ?_);refine Zb (ZDh e g Xc) fun r ⟨v,y,z,a,A⟩=>?_;dsimp only at a;subst a;refine Zl (Jn (by simp;omega) (by omega)) ?_;rw [ZS (n:=i+1) (by omega) (by omega)];exact ih v y z A
 ·exact Zc (ZjP ..) (Zbt u (Zf ⟨vs,l,t,rfl,ZoG.list j (fun w _=>WI w) h x⟩))
def ZEP {cs:List Int} (j:Zq cs) (g:cs.length≤999999) (f:Bool):Ret (RO Wn ZCK (TV 1000000) cs f fun (v:Vu) b f'=>(v.number,Zd v.members,Zd v.owners,b,f')) (Zym (Za cs) f):=by
 rw [Zur];refine Zb (VN j f) fun r ⟨i,s,k,c,d⟩=>?_;dsimp only at c;subst c;refine Zb (ZyQ d.by' (d.le g) k) fun r ⟨a,t,l,c,e⟩=>?_;dsimp only at c;subst c;refine Zb (ZyQ e.by' (e.le (d.le g)) l) fun r ⟨b,m,n,c,o⟩=>?_;dsimp only at c;subst c
 exact Zf ⟨⟨i,a,b⟩,m,n,rfl,(d.seq (e.seq o)).map (fun p=>(⟨p.1,p.2.1,p.2.2⟩:Vu)) (fun r=>(r.number,r.members,r.owners)) (fun h=>⟨h.2.1.1,h.2.2.1⟩)
  fun w q=>⟨q,by simp [Wn],rfl⟩⟩
def RR.bit {cs c:List Int} {f f':Bool} {v:Int} (h:RR nB N35 TT cs f v c f'):RR bB TT TT cs f (P0 .eql v 1) c f':=by
 refine ⟨h.by',h.len,h.adv,trivial,fun w rest d _ a=>?_⟩
 cases w
 ·obtain ⟨e,r,b⟩:=h.post 0 rest d ⟨by decide,by decide⟩ a;exact ⟨by rw [e];rfl,r,b⟩
 ·obtain ⟨e,r,b⟩:=h.post 1 rest d ⟨by decide,by decide⟩ a;exact ⟨by rw [e];rfl,r,b⟩
def Zgk (x:YN):Prop:=Yw x.node∧N35 x.op∧I35 x.lock
def Zn6 (x:Zaq):Prop:=N35 x.region∧I35 x.op
def Zrn (x:Ans):Prop:=N35 x.op∧N35 x.err
def ZsC (x:ZY):Prop:=N35 x.core∧N35 x.slot∧Yw x.node
def Zuu (s:JD):Prop:=GL Zgk s.slots∧GL ZsL s.pending∧GL Zn6 s.marks∧GL Zrn s.answers∧GL ZsC s.entries∧GL I35 s.commits
def Zyt (cs:List Int) (f:Bool) (r:LL×LL×LL×LL×LL×LL×LL×Bool):Prop:=RO YS Zuu (TS 1000000) cs f (fun (v:JD) b f'=>(v.slots.map Zv,v.pending.map Jq,v.marks.map Zz,v.answers.map JB,v.entries.map Zi,Ze v.commits,b,f')) r
def Zu9 {cs a b c d e g:List Int} {f h i j k l m:Bool} {n:List YN} {o:List Req} {q:List Zaq} {r:List Ans} {t:List ZY} {u:List Id}
  (A:RR (Zs YO) (GL Zgk) (TL (fun x=>TN x.node) 1000000) cs f n a h) (C:RR (Zs Wz) (GL ZsL) (TL TR 1000000) a h o b i) (D:RR (Zs YJ) (GL Zn6) (TL TT 1000000) b i q c j)
  (E:RR (Zs WF) (GL Zrn) (TL TT 1000000) c j r d k) (G:RR (Zs V8) (GL ZsC) (TL (fun x=>TN x.node) 1000000) d k t e l) (H:RR (Zs idB) (GL I35) (TL TT 1000000) e l u g m) :
  RR YS Zuu (TS 1000000) cs f (⟨n,o,q,r,t,u⟩:JD) g m:=
 RR.map (c':=YS) (G':=Zuu) (T':=TS 1000000) (fun p=>(⟨p.1,p.2.1,p.2.2.1,p.2.2.2.1,(d4 p).1,p.2.2.2.2.2⟩:JD)) (fun s=>(s.slots,s.pending,s.marks,s.answers,s.entries,s.commits)) (A.seq (C.seq (D.seq (E.seq (G.seq H)))))
  (fun ⟨v,y,J,L,z,M⟩=>⟨v.1,v.2,y.1,y.2,J.1,L.1,z.1,z.2,M.1⟩)
  fun w N=>⟨N,rfl,rfl⟩
def ZzZ {cs:List Int} (hl:cs.length≤999999) {f:Bool} (H J L M N O:LL) (l:List YN) (Q:List Int) (R:Bool) (S:RR (Zs YO) (GL Zgk) (TL (fun x=>TN x.node) 1000000) cs f l Q R) (m:List Req) (U:List Int) (W:Bool) (X:RR (Zs Wz) (GL ZsL) (TL TR 1000000) Q R m U W) (q:List Zaq) (Y:List Int) (Z:Bool) (e2:RR (Zs YJ) (GL Zn6) (TL TT 1000000) U W q Y Z) (t:List Ans) (u:List Int) (q3:Bool) (e3:RR (Zs WF) (GL Zrn) (TL TT 1000000) Y Z t u q3) {n:Int} {o:List Int} {v:Bool} (h:RR nB N35 TT u q3 n o v):Ret (Zyt cs f) (Zf5 Zr (Za o) v H J L M N O (l.map Zv) (m.map Jq) (q.map Zz) (t.map JB) E0 E0 n 0):=by
 have e:u.length≤999999:=(e3.le (e2.le (X.le (S.le hl))));refine Zhu (c:=V8) (G:=ZsC) (T:=(fun x=>TN x.node)) (cell:=Zi) h.by' (h.le e) (n:=n) (f:=v) (F:=fun k b f g i=>Zf5 k b f H J L M N O (l.map Zv) (m.map Jq) (q.map Zz) (t.map JB) g E0 n i) (fun k c1 g i y z aa ab hi ih=>?_) (fun k vs c1 A i hx h2=>?_)
 ·refine Zc (Zh6 ..) (Zgv hi ?_);refine Zb (VN y Xc) fun r ⟨a,c2,A,d,C⟩=>?_;dsimp only at d;subst d;refine Zb (VN C.by' A) fun r ⟨b,c3,D,d,E⟩=>?_;dsimp only at d;subst d;refine Zb (ZDh E.by' (E.le (C.le z)) D) fun r ⟨c,c4,f4,d,hc⟩=>?_;dsimp only at d;subst d;refine Zl (Jn (by simp;omega) (by omega)) (Zl (Jn (by simp;omega) (by omega)) ?_);rw [ZS (n:=i+1) (by omega) (by omega)];exact ih ⟨a,b,c⟩ c4 f4 (RR.map (c':=V8) (G':=ZsC) (T':=fun x=>TN x.node) (fun p=>(⟨p.1,p.2.1,p.2.2⟩:ZY)) (fun s=>(s.core,s.slot,s.node)) (C.seq (E.seq hc)) (fun h=>h.2.2) fun w j=>⟨j,by simp [V8],rfl⟩)
 ·refine Zc (Zh6 ..) (Zbt hx ?_);have j:=ZoG.list e (fun w _=>by have:=VK w.core;simp only [V8,Xf];omega) h h2;refine Zb (ZIx j.by' (j.le e) A) fun r ⟨co,o2,D,d,h3⟩=>?_;dsimp only at d;subst d;exact Zf ⟨⟨l,m,q,t,vs,co⟩,o2,D,rfl,Zu9 S X e2 e3 j h3⟩
def Zzs {cs:List Int} (Q:cs.length≤999999) {f:Bool} (v y z A C D:LL) (j:List YN) (E:List Int) (H:Bool) (R:RR (Zs YO) (GL Zgk) (TL (fun x=>TN x.node) 1000000) cs f j E H) (l:List Req) (J:List Int) (L:Bool) (S:RR (Zs Wz) (GL ZsL) (TL TR 1000000) E H l J L) (m:List Zaq) (q:List Int) (M:Bool) (U:RR (Zs YJ) (GL Zn6) (TL TT 1000000) J L m q M) {n:Int} {o:List Int} {N:Bool} (h:RR nB N35 TT q M n o N):Ret (Zyt cs f) (Zga Zr (Za o) N v y z A C D (j.map Zv) (l.map Jq) (m.map Zz) E0 E0 E0 n 0):=by
 have e:q.length≤999999:=(U.le (S.le (R.le Q)));refine Zhu (c:=WF) (G:=Zrn) (T:=TT) (cell:=JB) h.by' (h.le e) (n:=n) (f:=N) (F:=fun k b f g i=>Zga k b f v y z A C D (j.map Zv) (l.map Jq) (m.map Zz) g E0 E0 n i) (fun k W g i O aa X ab hi ih=>?_) (fun k vs W t i hx h2=>?_)
 ·refine Zc (Zjw ..) (Zgv hi ?_);refine Zb (VN O Xc) fun r ⟨a,c2,t,d,Y⟩=>?_;dsimp only at d;subst d;refine Zb (VN Y.by' t) fun r ⟨b,c3,Z,d,hb⟩=>?_;dsimp only at d;subst d;refine Zl (Jn (by simp;omega) (by omega)) (Zl (Jn (by simp;omega) (by omega)) ?_);rw [ZS (n:=i+1) (by omega) (by omega)];exact ih ⟨a,b⟩ c3 Z (RR.map (c':=WF) (G':=Zrn) (T':=TT) (fun p=>(⟨p.1,p.2⟩:Ans)) (fun s=>(s.op,s.err)) (Y.seq hb) (fun _=>trivial) fun w u=>⟨u,rfl,rfl⟩)
 ·refine Zc (Zjw ..) (Zbt hx ?_);have u:=ZoG.list e (fun w _=>by have:=VK w.op;simp only [WF,Xf];omega) h h2;refine Zb (VN u.by' t) fun r ⟨n2,o2,Z,d,h3⟩=>?_;dsimp only at d;subst d;exact ZzZ Q v y z A C D j E H R l J L S m q M U vs W t u h3
def ZAG {cs:List Int} (M:cs.length≤999999) {f:Bool} (u v y z A C:LL) (j:List YN) (D:List Int) (E:Bool) (N:RR (Zs YO) (GL Zgk) (TL (fun x=>TN x.node) 1000000) cs f j D E) (l:List Req) (m:List Int) (H:Bool) (O:RR (Zs Wz) (GL ZsL) (TL TR 1000000) D E l m H) {n:Int} {o:List Int} {J:Bool} (h:RR nB N35 TT m H n o J):Ret (Zyt cs f) (ZfB Zr (Za o) J u v y z A C (j.map Zv) (l.map Jq) E0 E0 E0 E0 n 0):=by
 have e:m.length≤999999:=(O.le (N.le M));refine Zhu (c:=YJ) (G:=Zn6) (T:=TT) (cell:=Zz) h.by' (h.le e) (n:=n) (f:=J) (F:=fun k b f g i=>ZfB k b f u v y z A C (j.map Zv) (l.map Jq) g E0 E0 E0 n i) (fun k Q g i L W R X Y ih=>?_) (fun k vs Q q i Z h2=>?_)
 ·refine Zc (Zi7 ..) (Zgv Y ?_);refine Zb (VN L Xc) fun r ⟨a,c2,q,d,S⟩=>?_;dsimp only at d;subst d;refine Zb (ZAc S.by' q) fun r ⟨b,c3,U,d,hb⟩=>?_;dsimp only at d;subst d;refine Zl (Jn (by simp;omega) (by omega)) (Zl (Jn (by simp;omega) (by omega)) ?_);rw [ZS (n:=i+1) (by omega) (by omega)];exact ih ⟨a,b⟩ c3 U (RR.map (c':=YJ) (G':=Zn6) (T':=TT) (fun p=>(⟨p.1,p.2⟩:Zaq)) (fun s=>(s.region,s.op)) (S.seq hb) (fun _=>trivial) fun w t=>⟨t,rfl,rfl⟩)
 ·refine Zc (Zi7 ..) (Zbt Z ?_);have t:=ZoG.list e (fun w _=>by have:=VK w.region;simp only [YJ,Xf];omega) h h2;refine Zb (VN t.by' q) fun r ⟨n2,o2,U,d,h3⟩=>?_;dsimp only at d;subst d;exact Zzs M u v y z A C j D E N l m H O vs Q q t h3
def ZC2 {cs:List Int} (D:cs.length≤999999) {f:Bool} (p q s t u v:LL) (j:List YN) (l:List Int) (y:Bool) (E:RR (Zs YO) (GL Zgk) (TL (fun x=>TN x.node) 1000000) cs f j l y) {n:Int} {o:List Int} {z:Bool} (h:RR nB N35 TT l y n o z):Ret (Zyt cs f) (ZfP Zr (Za o) z p q s t u v (j.map Zv) E0 E0 E0 E0 E0 n 0):=by
 have d:l.length≤999999:=(E.le D);refine Zhu (c:=Wz) (G:=ZsL) (T:=TR) (cell:=Jq) h.by' (h.le d) (n:=n) (f:=z) (F:=fun k b f e i=>ZfP k b f p q s t u v (j.map Zv) e E0 E0 E0 E0 n i) (fun k H e i A C J M N ih=>?_) (fun k vs H m i O Q=>?_)
 ·refine Zc (Zip ..) (Zgv N ?_);refine Zl (Jn (by simp;omega) (by omega)) ?_;refine Zb (ZIu A C Xc) fun r ⟨a,R,m,g,S⟩=>?_;dsimp only at g;subst g;refine Zl (Jn (by simp;omega) (by omega)) ?_;rw [ZS (n:=i+1) (by omega) (by omega)];exact ih a R m S
 ·refine Zc (Zip ..) (Zbt O ?_);have L:=ZoG.list d (fun w _=>by have:=WI w.src;simp only [Wz,Xf];omega) h Q;refine Zb (VN L.by' m) fun r ⟨W,X,Y,g,U⟩=>?_;dsimp only at g;subst g;exact ZAG D p q s t u v j l y E vs H m L U
def ZAW {cs:List Int} (D:cs.length≤999999) {f:Bool} (m q t u v y:LL) {n:Int} {o:List Int} {z:Bool} (h:RR nB N35 TT cs f n o z):Ret (Zyt cs f) (ZjE Zr (Za o) z m q t u v y E0 E0 E0 E0 E0 E0 n 0):=by
 have e:cs.length≤999999:=D;refine Zhu (c:=YO) (G:=Zgk) (T:=(fun x=>TN x.node)) (cell:=Zv) h.by' (h.le e) (n:=n) (f:=z) (F:=fun k b f g i=>ZjE k b f m q t u v y g E0 E0 E0 E0 E0 n i) (fun k E g i A C H N O ih=>?_) (fun k vs E j i Q R=>?_)
 ·refine Zc (ZjY ..) (Zgv O ?_);refine Zb (ZDh A C Xc) fun r ⟨a,Y,j,d,J⟩=>?_;dsimp only at d;subst d;refine Zb (VN J.by' j) fun r ⟨b,Z,L,d,M⟩=>?_;dsimp only at d;subst d;refine Zb (ZAc M.by' L) fun r ⟨c,S,U,d,W⟩=>?_;dsimp only at d;subst d;refine Zl (Jn (by simp;omega) (by omega)) (Zl (Jn (by simp;omega) (by omega)) ?_);rw [ZS (n:=i+1) (by omega) (by omega)];exact ih ⟨a,b,c⟩ S U (RR.map (c':=YO) (G':=Zgk) (T':=fun x=>TN x.node) (fun p=>(⟨p.1,p.2.1,p.2.2⟩:YN)) (fun s=>(s.node,s.op,s.lock)) (J.seq (M.seq W)) (fun h=>h.1) fun w l=>⟨l,by simp [YO],rfl⟩)
 ·refine Zc (ZjY ..) (Zbt Q ?_);have l:=ZoG.list e (fun w _=>by have:=WI w.node;simp only [YO,Xf];omega) h R;refine Zb (VN l.by' j) fun r ⟨n2,o2,L,d,X⟩=>?_;dsimp only at d;subst d;exact ZC2 D m q t u v y  vs E j l X
def ZE1 {cs:List Int} (b:Zq cs) (c:cs.length≤999999) (f:Bool):Ret (Zyt cs f) (Zyn (Za cs) f):=by
 rw [ZvS];refine Zb (VN b f) fun r ⟨n,d,e,a,h⟩=>?_;dsimp only at a;subst a;exact ZAW c _ _ _ _ _ _ h
def ZDa (r:Js):Prop:=N35 r.core∧ZCK r.view∧Zuu r.state∧TT r.ready∧ZCK r.next∧Zuu r.proposal
def ZLm {cs:List Int} (m:Zq cs) (n:cs.length≤999999) (f:Bool):Ret (RO ZiL ZDa (TP 1000000) cs f fun (r:Js) b f'=>(r.core,r.view.number,Zd r.view.members,Zd r.view.owners,r.state.slots.map Zv,r.state.pending.map Jq,r.state.marks.map Zz,r.state.answers.map JB,r.state.entries.map Zi,Ze r.state.commits,r.ready,r.next.number,Zd r.next.members,Zd r.next.owners,r.proposal.slots.map Zv,r.proposal.pending.map Jq,r.proposal.marks.map Zz,r.proposal.answers.map JB,r.proposal.entries.map Zi,Ze r.proposal.commits,b,f')) (ZDM (Za cs) f):=by
 rw [ZuL];refine Zb (VN m f) fun r ⟨c,O,o,a,d⟩=>?_;dsimp only at a;subst a;have j:=d.le n;refine Zb (ZEP d.by' j o) fun r ⟨v,Q,q,a,e⟩=>?_;dsimp only at a;subst a;have k:=e.le j;refine Zb (ZE1 e.by' k q) fun r ⟨s,R,t,a,g⟩=>?_;dsimp only at a;subst a;have u:=g.le k;refine Zb (VN g.by' t) fun r ⟨b,S,x,a,h⟩=>?_;dsimp only at a;subst a;have l:=h.le u;refine Zb (ZEP h.by' l x) fun r ⟨y,T,z,a,i⟩=>?_;dsimp only at a;subst a;have A:=i.le l;refine Zb (ZE1 i.by' A z) fun r ⟨C,D,E,a,G⟩=>?_;dsimp only at a;subst a
 exact Zf ⟨⟨c,v,s,P0 .eql b 1,y,C⟩,D,E,rfl,RR.map (c':=ZiL) (G':=ZDa) (T':=TP 1000000) (fun p=>(⟨p.1,p.2.1,p.2.2.1,p.2.2.2.1,(d4 p).1,p.2.2.2.2.2⟩:Js)) (fun r=>(r.core,r.view,r.state,r.ready,r.next,r.proposal)) (d.seq (e.seq (g.seq (h.bit.seq (i.seq G)))))
  (fun ⟨_,H,J,_,L,M⟩=>⟨H,J,L,M⟩) fun w N=>⟨N,rfl,rfl⟩⟩
def n35 {z a:Int} (b:0≤z) (c:z≤a) (d:a < 34359738368):N35 z:=⟨b,by have:(2:Int)^35=34359738368:=(by decide);omega⟩
def ZtY {i:Id} (h:Vx i=Xb):I35 i:=by
 have:=of_decide_eq_true h;exact ⟨n35 (a:=32) (by omega) (by omega) (by decide),n35 (a:=1073741824) (by omega) (by omega) (by decide),n35 (a:=8) (by omega) (by omega) (by decide)⟩
def Ziw {i:Id} (h:Za4 i=Xb):I35 i:=by
 simp only [Za4,Xj] at h;exact ZtY h.1
def Zy3:I35 zid:=by
 have z:N35 0:=⟨by decide,by decide⟩;exact ⟨z,z,z⟩
def Zr9 {z:Int} (h:Jo z=Xb):N35 z:=by have:=of_decide_eq_true h;exact n35 (a:=16) (by omega) (by omega) (by decide)
def ZtX {z:Int} (h:JO z=Xb):N35 z:=by have:=of_decide_eq_true h;exact n35 (a:=64) (by omega) (by omega) (by decide)
def ZcE {z:Int} (h:Zw z=Xb):N35 z:=by have:=of_decide_eq_true h;exact n35 (a:=32) (by omega) (by omega) (by decide)
def ZAE {z:Int} (h:Zcq z=Xb):N35 z:=by have:=of_decide_eq_true h;exact n35 (a:=99) (by omega) (by omega) (by decide)
def ZrW {z:Int} (h:JR z=Xb):N35 z:=by have:=of_decide_eq_true h;exact n35 (a:=1073741824) (by omega) (by omega) (by decide)
def ZA9 {r:Req} (h:Kl r=Xb) (c:r.Good):ZsL r:=by
 have d:=ZhM h;simp only [Kl,Xj] at h;obtain ⟨⟨⟨⟨e,g⟩,f⟩,b⟩,_⟩:=h;have b:=of_decide_eq_true b;exact ⟨Ziw e,c.call,Zr9 f,n35 (a:=39) (by omega) (by omega) (by decide),d⟩
def ZuY {x:YN} (h:WH x=Xb):Zgk x:=by
 have d:=ZqD h;simp only [WH,Xj] at h;obtain ⟨c,b⟩:=h;have c:=of_decide_eq_true c;refine ⟨d,n35 (a:=1073741824) (by omega) (by omega) (by decide),?_⟩;split at b
 ·rw [Xj] at b;rw [show x.lock=zid from of_decide_eq_true b.2];exact Zy3
 ·rw [Xj,XF] at b;rcases b.2 with e | e
  ·rw [show x.lock=zid from of_decide_eq_true e];exact Zy3
  ·exact Ziw e
def Zk3 {s:JD} (h:Yg s=Xb) (c:s.Good):Zuu s:=by
 simp only [Yg,Xj,Xo] at h;obtain ⟨⟨⟨⟨⟨d,e⟩,f⟩,g⟩,j⟩,k⟩:=h;refine ⟨⟨JY c.slots,fun x b=>?_⟩,⟨JY c.pending,fun x b=>ZA9 (e.1 x b) (c.req x b)⟩,⟨JY c.marks,fun x b=>?_⟩,⟨JY c.answers,fun x b=>?_⟩,⟨JY c.entries,fun x b=>?_⟩,⟨JY c.commits,fun x b=>Ziw (k x b)⟩⟩
 ·obtain ⟨i,l,rfl⟩:=Uv b;simp only [KQ,Xj,Xo] at d;have:=(d.2 i (by rw [Ta];omega)).1;rw [Jz _ l] at this;exact ZuY this
 ·have:=f.1 x b;simp only [Kf,Xj] at this;exact ⟨Zr9 this.1,Ziw this.2⟩
 ·have:=g.1 x b;simp only [Wu,Xj] at this;have h:=of_decide_eq_true this.1;exact ⟨n35 (a:=1073741824) (by omega) (by omega) (by decide),ZAE this.2⟩
 ·have:=j.1 x b;simp only [VR,Xj] at this;exact ⟨ZcE this.1.1,ZtX this.1.2,.inl this.2⟩
def Zrt {v:Vu} (h:KG v=Xb) (b:v.Good):ZCK v:=by
 simp only [KG,Xj,Xo] at h;obtain ⟨⟨⟨⟨c,g⟩,j⟩,d⟩,e⟩:=h;refine ⟨ZrW c,⟨JY b.members,fun x a=>?_⟩,⟨JY b.owners,fun x a=>ZcE (e x a)⟩⟩;obtain ⟨i,f,rfl⟩:=Uv a;have:=(d i (by rw [Ta];omega)).1;rw [Jz _ f] at this;exact ZcE this
def ZuG {l:List Int} (h:ZaV l=Xb):∀ x∈l,N35 x:=fun x a=>by
 simp only [ZaV,Xj,Xo] at h;exact ZcE (h.1 x a)
def ZES {r:Js} (h:Zcy r=Xb) (a:r.Good):ZDa r:=by
 simp only [Zcy,Xj] at h;obtain ⟨⟨⟨⟨b,c⟩,d⟩,e⟩,f⟩:=h;exact ⟨ZcE b,Zrt c a.view,Zk3 d a.state,trivial,Zrt e a.next,Zk3 f a.proposal⟩
def gf0 {w:Msg} (a:w.Good) (h:Zh w 0=Xb):N35 w.region:=Zr9 h
def gf1 {w:Msg} (a:w.Good) (h:Zh w 1=Xb):ZsL w.req:=ZA9 h a.req
def gf2 {w:Msg} (a:w.Good) (h:Zh w 2=Xb):I35 w.op:=Ziw h
def gf3 {w:Msg} (a:w.Good) (h:Zh w 3=Xb):N35 w.err:=ZAE h
def gf4 {w:Msg} (a:w.Good) (h:Zh w 4=Xb):TT w.settled:=trivial
def gf5 {w:Msg} (a:w.Good) (h:Zh w 5=Xb):GL Yw w.nodes:=⟨JY a.nodesn,fun x b=>.inl (by simp only [Zh,Xj,Xo] at h;exact h.2 x b)⟩
def gf6 {w:Msg} (a:w.Good) (h:Zh w 6=Xb):N35 w.slot:=ZtX h
def gf7 {w:Msg} (a:w.Good) (h:Zh w 7=Xb):GL I35 w.ids:=⟨JY a.idsn,fun x b=>ZtY (by simp only [Zh,Xj,Xo] at h;exact h.2 x b)⟩
def gf8 {w:Msg} (a:w.Good) (h:Zh w 8=Xb):N35 w.round:=ZrW h
def gf9 {w:Msg} (a:w.Good) (h:Zh w 9=Xb):GL N35 w.cores:=⟨JY a.coresn,ZuG h⟩
def ZKk {w:Msg} (a:w.Good) (h:Zh w 10=Xb):ZDa w.report:=ZES h a.report
def ZKi {w:Msg} (a:w.Good) (h:Zh w 11=Xb):N35 w.base:=ZrW h
def ZJV {w:Msg} (a:w.Good) (h:Zh w 12=Xb):ZCK w.next:=Zrt h a.next
def ZJx {w:Msg} (a:w.Good) (h:Zh w 13=Xb):Zuu w.state:=Zk3 h a.state
def ZHM (x:ZeF):Prop:=N35 x.region∧N35 x.to
def ZLi {w:Msg} (a:w.Good) (h:Zh w 14=Xb):GL ZHM w.moves:=⟨JY a.movesn,fun x b=>by
 simp only [Zh,Xj,Xo] at h;have:=h.2 x b;simp only [KV,Xj] at this;exact ⟨Zr9 this.1,ZcE this.2⟩⟩
def KM {m w:Msg} (e:Zj6 w) (L:List Nat) (f:kf w.kind.toNat=L) (i:m.kind=w.kind) (j:m.view=w.view) (k:m.frm=w.frm) (l:m.to=w.to) (n:∀ g,g < 15→g∉L→zf m g=Xb) (o:∀ g∈L,eqF m w g):m=w:=by
 have b:=e.valid;simp only [Z1,Xj,Xo] at b;refine Zkp i j k l fun g c=>?_;by_cases hm:g∈L
 ·exact o g hm
 ·have d:=b.2.2;simp only [rest,Xo,List.mem_range,XF] at d;have a:¬ (kf w.kind.toNat).contains g=Xb:=fun h=>hm (by rw [← f];exact List.contains_iff_mem.1 h);exact ZuU (n g c hm) ((d g c).resolve_left a)
def ZIz (m:Msg) (b:LL) (f:Bool):Qt2:=(m.kind,m.view,m.frm,m.to,m.round,m.region,m.slot,m.op.core,m.op.op,m.op.part,m.err,m.settled,m.req.id.core,m.req.id.op,m.req.id.part,m.req.call.kind,m.req.call.slot,m.req.call.dest,m.req.call.core,m.req.call.mask,m.req.call.object,m.req.call.bits,m.req.call.level,m.req.call.offset,m.req.call.count,m.req.call.index,m.req.call.addr,m.req.region,m.req.width,m.req.src.id.core,m.req.src.id.op,m.req.src.id.part,(Ze m.req.src.path),m.req.src.cap.kind,m.req.src.cap.base,m.req.src.cap.bits,m.req.src.cap.rights,m.req.src.cap.width,m.req.src.cap.level,m.req.src.cap.device,(Ze m.ids),(m.nodes.map YM),(Zd m.cores),(m.moves.map YE),m.base,m.next.number,(Zd m.next.members),(Zd m.next.owners),(m.state.slots.map Zv),(m.state.pending.map Jq),(m.state.marks.map Zz),(m.state.answers.map JB),(m.state.entries.map Zi),(Ze m.state.commits),m.report.core,m.report.view.number,(Zd m.report.view.members),(Zd m.report.view.owners),(m.report.state.slots.map Zv),(m.report.state.pending.map Jq),(m.report.state.marks.map Zz),(m.report.state.answers.map JB),(m.report.state.entries.map Zi),(Ze m.report.state.commits),m.report.ready,m.report.next.number,(Zd m.report.next.members),(Zd m.report.next.owners),(m.report.proposal.slots.map Zv),(m.report.proposal.pending.map Jq),(m.report.proposal.marks.map Zz),(m.report.proposal.answers.map JB),(m.report.proposal.entries.map Zi),(Ze m.report.proposal.commits),b,f)
def MR (cs:List Int) (r:Qt2):Prop:=∃ (m:Msg) (a:List Int) (f':Bool),r=ZIz m (Za a) f'∧TM 1000000 m∧∀ w,Zj6 w→ZeY w=cs→m=w∧f'=Xc
def ZAJ {cs:List Int} (j:Zq cs) (f:Bool) (m:Msg):Ret (fun r=>∃ (a:Int) (i:Id) (d e:List Int) (b g:Bool),r=ZIz { m with region:=a,op:=i } (Za e) g∧RR nB N35 TT cs f a d b∧RR idB I35 TT d b i e g) (ofM (ZoH (Za cs) f) m):=by
 unfold ofM;rw [Zw9];refine Zb (VN j f) fun r ⟨a,d,b,c,h⟩=>?_
 (try dsimp only at c);subst c
 refine Zb (ZAc h.by' b) fun r ⟨i,e,g,c,k⟩=>?_
 (try dsimp only at c);subst c
 exact Zf ⟨a,i,d,e,b,g,rfl,h,k⟩
def HD (cs e:List Int) (f:Bool) (a b c d:Int):Prop:=∀ w:Msg,Zj6 w→ZeY w=cs→a=w.kind∧b=w.view∧c=w.frm∧d=w.to∧f=Xc∧e=((kf w.kind.toNat).map (ZZ w)).flatten
def ZFK {cs m:List Int} (x:Zq m) (y:m.length≤999999) {o:Bool} {a b c d:Int} (z:a=1) (A:HD cs m o a b c d):Ret (MR cs) ((YZ (Za m) o).bind fun (f:Int×LL×Bool)=>
 (Zz8 f.2.1 f.2.2).bind fun (e:Qt9)=>
 Xa (a,b,c,d,0,f.1,0,0,0,0,0,Xc,e.1,e.2.1,e.2.2.1,e.2.2.2.1,(d4 e).1,(d4 e).2.1,(d6 e).1,(d6 e).2.1,(d8 e).1,(d8 e).2.1,(df e).1,(df e).2.1,(dg e).1,(dg e).2.1,(dh e).1,(dh e).2.1,(P2 e).1,(P2 e).2.1,(d2 (P2 e)).1,(d2 (P2 e)).2.1,(d4 (P2 e)).1,(d4 (P2 e)).2.1,(d6 (P2 e)).1,(d6 (P2 e)).2.1,(d8 (P2 e)).1,(d8 (P2 e)).2.1,(df (P2 e)).1,(df (P2 e)).2.1,E0,E0,E0,E0,0,0,E0,E0,E0,E0,E0,E0,E0,E0,0,0,E0,E0,E0,E0,E0,E0,E0,E0,Xc,0,E0,E0,E0,E0,E0,E0,E0,E0,(dg (P2 e)).1,(dg (P2 e)).2)):=by
  refine Zb (VN x o) fun r ⟨C,T,D,i,p⟩=>?_
  (try dsimp only at i);subst i
  refine Zb (ZIu p.by' (p.le y) D) fun r ⟨E,G,H,i,s⟩=>?_
  (try dsimp only at i);subst i
  refine Zf ⟨{ Zdi a b c d with region:=C,req:=E },G,H,rfl,⟨s.tot,(Zp 1000000 a b c d).nodes,(Zp 1000000 a b c d).ids,(Zp 1000000 a b c d).cores,(Zp 1000000 a b c d).moves,(Zp 1000000 a b c d).next,(Zp 1000000 a b c d).state,(Zp 1000000 a b c d).report⟩,fun w j J=>?_⟩;obtain ⟨t,L,M,N,O,k⟩:=A w j J;have l:kf w.kind.toNat = [0,1]:=by rw [← t,z];rfl
  rw [l] at k;have u:∀ g∈([0,1] : List Nat),Zh w g=Xb:=by have v:=j.valid;simp only [Z1,Xj,Xo] at v;rw [← l];exact v.2.1
  obtain ⟨x0,Q,R⟩:=p.post _ _ O (gf0 j.good (u 0 (by decide))) k;obtain ⟨x1,U,S⟩:=s.post _ _ R (gf1 j.good (u 1 (by decide))) Q;exact ⟨KM j [0,1] l t L M N (fun g q l=>match g,l with | 0,h=>absurd (by decide) h | 1,h=>absurd (by decide) h | 2,_=>rfl | 3,_=>rfl | 4,_=>rfl | 5,_=>rfl | 6,_=>rfl | 7,_=>rfl | 8,_=>rfl | 9,_=>rfl | 10,_=>rfl | 11,_=>rfl | 12,_=>rfl | 13,_=>rfl | 14,_=>rfl | n+15,_=>absurd q (by omega)) (fun g q=>match g,q with | _,.head _=>x0 | _,.tail _ (.head _)=>x1),S⟩
def ZFL {cs q:List Int} (D:Zq q) (E:q.length≤999999) {s:Bool} {a b c d:Int} (G:a=2) (H:HD cs q s a b c d):Ret (MR cs) ((ZoH (Za q) s a b c d 0 0 0 0 0 0 0 Xc 0 0 0 0 0 0 0 0 0 0 0 0 0 0 0 0 0 0 0 0 E0 0 0 0 0 0 0 Xc E0 E0 E0 E0 0 0 E0 E0 E0 E0 E0 E0 E0 E0 0 0 E0 E0 E0 E0 E0 E0 E0 E0 Xc 0 E0 E0 E0 E0 E0 E0 E0 E0).bind fun (e:Qt2)=>
 (YZ (df (dk e)).1 (df (dk e)).2).bind fun (j:Int×LL×Bool)=>
 (YZ j.2.1 j.2.2).bind fun (k:Int×LL×Bool)=>
 (Zx3 k.2.1 k.2.2).bind fun (l:LL×LL×Bool)=>
 Xa (e.1,e.2.1,e.2.2.1,e.2.2.2.1,(d4 e).1,(d4 e).2.1,(d6 e).1,(d6 e).2.1,(d8 e).1,(d8 e).2.1,j.1,(P0 .eql k.1 1),(dg e).1,(dg e).2.1,(dh e).1,(dh e).2.1,(P2 e).1,(P2 e).2.1,(d2 (P2 e)).1,(d2 (P2 e)).2.1,(d4 (P2 e)).1,(d4 (P2 e)).2.1,(d6 (P2 e)).1,(d6 (P2 e)).2.1,(d8 (P2 e)).1,(d8 (P2 e)).2.1,(df (P2 e)).1,(df (P2 e)).2.1,(dg (P2 e)).1,(dg (P2 e)).2.1,(dh (P2 e)).1,(dh (P2 e)).2.1,(di e).1,(di e).2.1,(d2 (di e)).1,(d2 (di e)).2.1,(d4 (di e)).1,(d4 (di e)).2.1,(d6 (di e)).1,(d6 (di e)).2.1,(d8 (di e)).1,l.1,(df (di e)).1,(df (di e)).2.1,(dg (di e)).1,(dg (di e)).2.1,(dh (di e)).1,(dh (di e)).2.1,(dj e).1,(dj e).2.1,(d2 (dj e)).1,(d2 (dj e)).2.1,(d4 (dj e)).1,(d4 (dj e)).2.1,(d6 (dj e)).1,(d6 (dj e)).2.1,(d8 (dj e)).1,(d8 (dj e)).2.1,(df (dj e)).1,(df (dj e)).2.1,(dg (dj e)).1,(dg (dj e)).2.1,(dh (dj e)).1,(dh (dj e)).2.1,(dk e).1,(dk e).2.1,(d2 (dk e)).1,(d2 (dk e)).2.1,(d4 (dk e)).1,(d4 (dk e)).2.1,(d6 (dk e)).1,(d6 (dk e)).2.1,(d8 (dk e)).1,(d8 (dk e)).2.1,l.2.1,l.2.2)):=by
  refine Zb (ZAJ D s (Zdi a b c d)) fun r ⟨J,L,c5,c6,f5,M,f,y,t⟩=>?_
  (try dsimp only at f);subst f
  refine Zb (VN t.by' M) fun r ⟨N,c7,O,f,u⟩=>?_
  (try dsimp only at f);subst f
  refine Zb (VN u.by' O) fun r ⟨Q,c8,R,f,v⟩=>?_
  (try dsimp only at f);subst f
  refine Zb (ZIT v.by' (v.le (u.le (t.le (y.le E)))) R) fun r ⟨S,T,U,f,z⟩=>?_
  (try dsimp only at f);subst f
  refine Zf ⟨{ Zdi a b c d with region:=J,op:=L,err:=N,settled:=P0 .eql Q 1,nodes:=S },T,U,rfl,⟨(Zp 1000000 a b c d).req,z.tot,(Zp 1000000 a b c d).ids,(Zp 1000000 a b c d).cores,(Zp 1000000 a b c d).moves,(Zp 1000000 a b c d).next,(Zp 1000000 a b c d).state,(Zp 1000000 a b c d).report⟩,fun w i W=>?_⟩;obtain ⟨A,X,Y,Z,e5,m⟩:=H w i W;have o:kf w.kind.toNat = [0,2,3,4,5]:=by rw [← A,G];rfl
  rw [o] at m;have p:∀ g∈([0,2,3,4,5] : List Nat),Zh w g=Xb:=by have C:=i.valid;simp only [Z1,Xj,Xo] at C;rw [← o];exact C.2.1
  obtain ⟨x0,s0,b0⟩:=y.post _ _ e5 (gf0 i.good (p 0 (by decide))) m;obtain ⟨x2,s1,b1⟩:=t.post _ _ b0 (gf2 i.good (p 2 (by decide))) s0;obtain ⟨x3,s2,b2⟩:=u.post _ _ b1 (gf3 i.good (p 3 (by decide))) s1;obtain ⟨x4,s3,b3⟩:=v.bit.post _ _ b2 (gf4 i.good (p 4 (by decide))) s2;obtain ⟨x5,s4,b4⟩:=z.post _ _ b3 (gf5 i.good (p 5 (by decide))) s3;exact ⟨KM i [0,2,3,4,5] o A X Y Z (fun g x o=>match g,o with | 0,h=>absurd (by decide) h | 1,_=>rfl | 2,h=>absurd (by decide) h | 3,h=>absurd (by decide) h | 4,h=>absurd (by decide) h | 5,h=>absurd (by decide) h | 6,_=>rfl | 7,_=>rfl | 8,_=>rfl | 9,_=>rfl | 10,_=>rfl | 11,_=>rfl | 12,_=>rfl | 13,_=>rfl | 14,_=>rfl | n+15,_=>absurd x (by omega)) (fun g x=>match g,x with | _,.head _=>x0 | _,.tail _ (.head _)=>x2 | _,.tail _ (.tail _ (.head _))=>x3 | _,.tail _ (.tail _ (.tail _ (.head _)))=>x4 | _,.tail _ (.tail _ (.tail _ (.tail _ (.head _))))=>x5),b4⟩
def ZHz {cs o:List Int} (A:Zq o) (C:o.length≤999999) {q:Bool} {a b c d:Int} (D:a=4) (E:HD cs o q a b c d):Ret (MR cs) ((ZoH (Za o) q a b c d 0 0 0 0 0 0 0 Xc 0 0 0 0 0 0 0 0 0 0 0 0 0 0 0 0 0 0 0 0 E0 0 0 0 0 0 0 Xc E0 E0 E0 E0 0 0 E0 E0 E0 E0 E0 E0 E0 E0 0 0 E0 E0 E0 E0 E0 E0 E0 E0 Xc 0 E0 E0 E0 E0 E0 E0 E0 E0).bind fun (e:Qt2)=>
 (YZ (df (dk e)).1 (df (dk e)).2).bind fun (i:Int×LL×Bool)=>
 (Zx3 i.2.1 i.2.2).bind fun (j:LL×LL×Bool)=>
 Xa (e.1,e.2.1,e.2.2.1,e.2.2.2.1,(d4 e).1,(d4 e).2.1,i.1,(d6 e).2.1,(d8 e).1,(d8 e).2.1,(df e).1,(df e).2.1,(dg e).1,(dg e).2.1,(dh e).1,(dh e).2.1,(P2 e).1,(P2 e).2.1,(d2 (P2 e)).1,(d2 (P2 e)).2.1,(d4 (P2 e)).1,(d4 (P2 e)).2.1,(d6 (P2 e)).1,(d6 (P2 e)).2.1,(d8 (P2 e)).1,(d8 (P2 e)).2.1,(df (P2 e)).1,(df (P2 e)).2.1,(dg (P2 e)).1,(dg (P2 e)).2.1,(dh (P2 e)).1,(dh (P2 e)).2.1,(di e).1,(di e).2.1,(d2 (di e)).1,(d2 (di e)).2.1,(d4 (di e)).1,(d4 (di e)).2.1,(d6 (di e)).1,(d6 (di e)).2.1,(d8 (di e)).1,j.1,(df (di e)).1,(df (di e)).2.1,(dg (di e)).1,(dg (di e)).2.1,(dh (di e)).1,(dh (di e)).2.1,(dj e).1,(dj e).2.1,(d2 (dj e)).1,(d2 (dj e)).2.1,(d4 (dj e)).1,(d4 (dj e)).2.1,(d6 (dj e)).1,(d6 (dj e)).2.1,(d8 (dj e)).1,(d8 (dj e)).2.1,(df (dj e)).1,(df (dj e)).2.1,(dg (dj e)).1,(dg (dj e)).2.1,(dh (dj e)).1,(dh (dj e)).2.1,(dk e).1,(dk e).2.1,(d2 (dk e)).1,(d2 (dk e)).2.1,(d4 (dk e)).1,(d4 (dk e)).2.1,(d6 (dk e)).1,(d6 (dk e)).2.1,(d8 (dk e)).1,(d8 (dk e)).2.1,j.2.1,j.2.2)):=by
  refine Zb (ZAJ A q (Zdi a b c d)) fun r ⟨G,H,c5,c6,f5,J,f,v,s⟩=>?_
  (try dsimp only at f);subst f
  refine Zb (VN s.by' J) fun r ⟨L,c7,M,f,t⟩=>?_
  (try dsimp only at f);subst f
  refine Zb (ZIT t.by' (t.le (s.le (v.le C))) M) fun r ⟨N,O,Q,f,x⟩=>?_
  (try dsimp only at f);subst f
  refine Zf ⟨{ Zdi a b c d with region:=G,op:=H,slot:=L,nodes:=N },O,Q,rfl,⟨(Zp 1000000 a b c d).req,x.tot,(Zp 1000000 a b c d).ids,(Zp 1000000 a b c d).cores,(Zp 1000000 a b c d).moves,(Zp 1000000 a b c d).next,(Zp 1000000 a b c d).state,(Zp 1000000 a b c d).report⟩,fun w k R=>?_⟩;obtain ⟨y,S,T,U,W,l⟩:=E w k R;have m:kf w.kind.toNat = [0,2,6,5]:=by rw [← y,D];rfl
  rw [m] at l;have p:∀ g∈([0,2,6,5] : List Nat),Zh w g=Xb:=by have z:=k.valid;simp only [Z1,Xj,Xo] at z;rw [← m];exact z.2.1
  obtain ⟨x0,X,Y⟩:=v.post _ _ W (gf0 k.good (p 0 (by decide))) l;obtain ⟨x2,Z,b1⟩:=s.post _ _ Y (gf2 k.good (p 2 (by decide))) X;obtain ⟨x6,s2,b2⟩:=t.post _ _ b1 (gf6 k.good (p 6 (by decide))) Z;obtain ⟨x5,s3,b3⟩:=x.post _ _ b2 (gf5 k.good (p 5 (by decide))) s2;exact ⟨KM k [0,2,6,5] m y S T U (fun g u m=>match g,m with | 0,h=>absurd (by decide) h | 1,_=>rfl | 2,h=>absurd (by decide) h | 3,_=>rfl | 4,_=>rfl | 5,h=>absurd (by decide) h | 6,h=>absurd (by decide) h | 7,_=>rfl | 8,_=>rfl | 9,_=>rfl | 10,_=>rfl | 11,_=>rfl | 12,_=>rfl | 13,_=>rfl | 14,_=>rfl | n+15,_=>absurd u (by omega)) (fun g u=>match g,u with | _,.head _=>x0 | _,.tail _ (.head _)=>x2 | _,.tail _ (.tail _ (.head _))=>x6 | _,.tail _ (.tail _ (.tail _ (.head _)))=>x5),b3⟩
def ZEU {cs m:List Int} (v:Zq m) (X:m.length≤999999) {o:Bool} {a b c d:Int} (x:a=5) (y:HD cs m o a b c d):Ret (MR cs) ((ZoH (Za m) o a b c d 0 0 0 0 0 0 0 Xc 0 0 0 0 0 0 0 0 0 0 0 0 0 0 0 0 0 0 0 0 E0 0 0 0 0 0 0 Xc E0 E0 E0 E0 0 0 E0 E0 E0 E0 E0 E0 E0 E0 0 0 E0 E0 E0 E0 E0 E0 E0 E0 Xc 0 E0 E0 E0 E0 E0 E0 E0 E0).bind fun (e:Qt2)=>
 (YZ (df (dk e)).1 (df (dk e)).2).bind fun (f:Int×LL×Bool)=>
 Xa (e.1,e.2.1,e.2.2.1,e.2.2.2.1,(d4 e).1,(d4 e).2.1,(d6 e).1,(d6 e).2.1,(d8 e).1,(d8 e).2.1,f.1,(df e).2.1,(dg e).1,(dg e).2.1,(dh e).1,(dh e).2.1,(P2 e).1,(P2 e).2.1,(d2 (P2 e)).1,(d2 (P2 e)).2.1,(d4 (P2 e)).1,(d4 (P2 e)).2.1,(d6 (P2 e)).1,(d6 (P2 e)).2.1,(d8 (P2 e)).1,(d8 (P2 e)).2.1,(df (P2 e)).1,(df (P2 e)).2.1,(dg (P2 e)).1,(dg (P2 e)).2.1,(dh (P2 e)).1,(dh (P2 e)).2.1,(di e).1,(di e).2.1,(d2 (di e)).1,(d2 (di e)).2.1,(d4 (di e)).1,(d4 (di e)).2.1,(d6 (di e)).1,(d6 (di e)).2.1,(d8 (di e)).1,(d8 (di e)).2.1,(df (di e)).1,(df (di e)).2.1,(dg (di e)).1,(dg (di e)).2.1,(dh (di e)).1,(dh (di e)).2.1,(dj e).1,(dj e).2.1,(d2 (dj e)).1,(d2 (dj e)).2.1,(d4 (dj e)).1,(d4 (dj e)).2.1,(d6 (dj e)).1,(d6 (dj e)).2.1,(d8 (dj e)).1,(d8 (dj e)).2.1,(df (dj e)).1,(df (dj e)).2.1,(dg (dj e)).1,(dg (dj e)).2.1,(dh (dj e)).1,(dh (dj e)).2.1,(dk e).1,(dk e).2.1,(d2 (dk e)).1,(d2 (dk e)).2.1,(d4 (dk e)).1,(d4 (dk e)).2.1,(d6 (dk e)).1,(d6 (dk e)).2.1,(d8 (dk e)).1,(d8 (dk e)).2.1,f.2.1,f.2.2)):=by
  refine Zb (ZAJ v o (Zdi a b c d)) fun r ⟨z,A,Y,Z,f5,C,j,D,s⟩=>?_
  (try dsimp only at j);subst j
  refine Zb (VN s.by' C) fun r ⟨E,G,H,j,J⟩=>?_
  (try dsimp only at j);subst j
  refine Zf ⟨{ Zdi a b c d with region:=z,op:=A,err:=E },G,H,rfl,⟨(Zp 1000000 a b c d).req,(Zp 1000000 a b c d).nodes,(Zp 1000000 a b c d).ids,(Zp 1000000 a b c d).cores,(Zp 1000000 a b c d).moves,(Zp 1000000 a b c d).next,(Zp 1000000 a b c d).state,(Zp 1000000 a b c d).report⟩,fun w i L=>?_⟩;obtain ⟨t,M,N,O,Q,k⟩:=y w i L;have l:kf w.kind.toNat = [0,2,3]:=by rw [← t,x];rfl
  rw [l] at k;have p:∀ g∈([0,2,3] : List Nat),Zh w g=Xb:=by have u:=i.valid;simp only [Z1,Xj,Xo] at u;rw [← l];exact u.2.1
  obtain ⟨x0,R,S⟩:=D.post _ _ Q (gf0 i.good (p 0 (by decide))) k;obtain ⟨x2,T,U⟩:=s.post _ _ S (gf2 i.good (p 2 (by decide))) R;obtain ⟨x3,s2,W⟩:=J.post _ _ U (gf3 i.good (p 3 (by decide))) T;exact ⟨KM i [0,2,3] l t M N O (fun g q l=>match g,l with | 0,h=>absurd (by decide) h | 1,_=>rfl | 2,h=>absurd (by decide) h | 3,h=>absurd (by decide) h | 4,_=>rfl | 5,_=>rfl | 6,_=>rfl | 7,_=>rfl | 8,_=>rfl | 9,_=>rfl | 10,_=>rfl | 11,_=>rfl | 12,_=>rfl | 13,_=>rfl | 14,_=>rfl | n+15,_=>absurd q (by omega)) (fun g q=>match g,q with | _,.head _=>x0 | _,.tail _ (.head _)=>x2 | _,.tail _ (.tail _ (.head _))=>x3),W⟩
def ZEw {cs m:List Int} (y:Zq m) (z:m.length≤999999) {o:Bool} {a b c d:Int} (A:a=6) (C:HD cs m o a b c d):Ret (MR cs) ((ZoH (Za m) o a b c d 0 0 0 0 0 0 0 Xc 0 0 0 0 0 0 0 0 0 0 0 0 0 0 0 0 0 0 0 0 E0 0 0 0 0 0 0 Xc E0 E0 E0 E0 0 0 E0 E0 E0 E0 E0 E0 E0 E0 0 0 E0 E0 E0 E0 E0 E0 E0 E0 Xc 0 E0 E0 E0 E0 E0 E0 E0 E0).bind fun (e:Qt2)=>
 (Zx5 (df (dk e)).1 (df (dk e)).2).bind fun (f:LL×LL×Bool)=>
 Xa (e.1,e.2.1,e.2.2.1,e.2.2.2.1,(d4 e).1,(d4 e).2.1,(d6 e).1,(d6 e).2.1,(d8 e).1,(d8 e).2.1,(df e).1,(df e).2.1,(dg e).1,(dg e).2.1,(dh e).1,(dh e).2.1,(P2 e).1,(P2 e).2.1,(d2 (P2 e)).1,(d2 (P2 e)).2.1,(d4 (P2 e)).1,(d4 (P2 e)).2.1,(d6 (P2 e)).1,(d6 (P2 e)).2.1,(d8 (P2 e)).1,(d8 (P2 e)).2.1,(df (P2 e)).1,(df (P2 e)).2.1,(dg (P2 e)).1,(dg (P2 e)).2.1,(dh (P2 e)).1,(dh (P2 e)).2.1,(di e).1,(di e).2.1,(d2 (di e)).1,(d2 (di e)).2.1,(d4 (di e)).1,(d4 (di e)).2.1,(d6 (di e)).1,(d6 (di e)).2.1,f.1,(d8 (di e)).2.1,(df (di e)).1,(df (di e)).2.1,(dg (di e)).1,(dg (di e)).2.1,(dh (di e)).1,(dh (di e)).2.1,(dj e).1,(dj e).2.1,(d2 (dj e)).1,(d2 (dj e)).2.1,(d4 (dj e)).1,(d4 (dj e)).2.1,(d6 (dj e)).1,(d6 (dj e)).2.1,(d8 (dj e)).1,(d8 (dj e)).2.1,(df (dj e)).1,(df (dj e)).2.1,(dg (dj e)).1,(dg (dj e)).2.1,(dh (dj e)).1,(dh (dj e)).2.1,(dk e).1,(dk e).2.1,(d2 (dk e)).1,(d2 (dk e)).2.1,(d4 (dk e)).1,(d4 (dk e)).2.1,(d6 (dk e)).1,(d6 (dk e)).2.1,(d8 (dk e)).1,(d8 (dk e)).2.1,f.2.1,f.2.2)):=by
  refine Zb (ZAJ y o (Zdi a b c d)) fun r ⟨D,E,Z,c6,f5,G,j,t,p⟩=>?_
  (try dsimp only at j);subst j
  refine Zb (ZIx p.by' (p.le (t.le z)) G) fun r ⟨H,J,L,j,u⟩=>?_
  (try dsimp only at j);subst j
  refine Zf ⟨{ Zdi a b c d with region:=D,op:=E,ids:=H },J,L,rfl,⟨(Zp 1000000 a b c d).req,(Zp 1000000 a b c d).nodes,u.tot.1,(Zp 1000000 a b c d).cores,(Zp 1000000 a b c d).moves,(Zp 1000000 a b c d).next,(Zp 1000000 a b c d).state,(Zp 1000000 a b c d).report⟩,fun w i M=>?_⟩;obtain ⟨v,N,O,Q,R,k⟩:=C w i M;have l:kf w.kind.toNat = [0,2,7]:=by rw [← v,A];rfl
  rw [l] at k;have q:∀ g∈([0,2,7] : List Nat),Zh w g=Xb:=by have x:=i.valid;simp only [Z1,Xj,Xo] at x;rw [← l];exact x.2.1
  obtain ⟨x0,S,T⟩:=t.post _ _ R (gf0 i.good (q 0 (by decide))) k;obtain ⟨x2,U,W⟩:=p.post _ _ T (gf2 i.good (q 2 (by decide))) S;obtain ⟨X,s2,Y⟩:=u.post _ _ W (gf7 i.good (q 7 (by decide))) U;exact ⟨KM i [0,2,7] l v N O Q (fun g s l=>match g,l with | 0,h=>absurd (by decide) h | 1,_=>rfl | 2,h=>absurd (by decide) h | 3,_=>rfl | 4,_=>rfl | 5,_=>rfl | 6,_=>rfl | 7,h=>absurd (by decide) h | 8,_=>rfl | 9,_=>rfl | 10,_=>rfl | 11,_=>rfl | 12,_=>rfl | 13,_=>rfl | 14,_=>rfl | n+15,_=>absurd s (by omega)) (fun g s=>match g,s with | _,.head _=>x0 | _,.tail _ (.head _)=>x2 | _,.tail _ (.tail _ (.head _))=>X),Y⟩
def ZBz {cs m:List Int} (x:Zq m) (y:m.length≤999999) {o:Bool} {a b c d:Int} (z:a=12) (A:HD cs m o a b c d):Ret (MR cs) ((YZ (Za m) o).bind fun (e:Int×LL×Bool)=>
 (Zrw e.2.1 e.2.2).bind fun (f:LL×LL×Bool)=>
 Xa (a,b,c,d,e.1,0,0,0,0,0,0,Xc,0,0,0,0,0,0,0,0,0,0,0,0,0,0,0,0,0,0,0,0,E0,0,0,0,0,0,0,Xc,E0,E0,f.1,E0,0,0,E0,E0,E0,E0,E0,E0,E0,E0,0,0,E0,E0,E0,E0,E0,E0,E0,E0,Xc,0,E0,E0,E0,E0,E0,E0,E0,E0,f.2.1,f.2.2)):=by
  refine Zb (VN x o) fun r ⟨C,W,D,i,p⟩=>?_
  (try dsimp only at i);subst i
  refine Zb (ZyQ p.by' (p.le y) D) fun r ⟨E,G,H,i,s⟩=>?_
  (try dsimp only at i);subst i
  refine Zf ⟨{ Zdi a b c d with round:=C,cores:=E },G,H,rfl,⟨(Zp 1000000 a b c d).req,(Zp 1000000 a b c d).nodes,(Zp 1000000 a b c d).ids,s.tot.1,(Zp 1000000 a b c d).moves,(Zp 1000000 a b c d).next,(Zp 1000000 a b c d).state,(Zp 1000000 a b c d).report⟩,fun w j J=>?_⟩;obtain ⟨t,L,M,N,O,k⟩:=A w j J;have l:kf w.kind.toNat = [8,9]:=by rw [← t,z];rfl
  rw [l] at k;have u:∀ g∈([8,9] : List Nat),Zh w g=Xb:=by have v:=j.valid;simp only [Z1,Xj,Xo] at v;rw [← l];exact v.2.1
  obtain ⟨Q,R,S⟩:=p.post _ _ O (gf8 j.good (u 8 (by decide))) k;obtain ⟨T,X,U⟩:=s.post _ _ S (gf9 j.good (u 9 (by decide))) R;exact ⟨KM j [8,9] l t L M N (fun g q l=>match g,l with | 0,_=>rfl | 1,_=>rfl | 2,_=>rfl | 3,_=>rfl | 4,_=>rfl | 5,_=>rfl | 6,_=>rfl | 7,_=>rfl | 8,h=>absurd (by decide) h | 9,h=>absurd (by decide) h | 10,_=>rfl | 11,_=>rfl | 12,_=>rfl | 13,_=>rfl | 14,_=>rfl | n+15,_=>absurd q (by omega)) (fun g q=>match g,q with | _,.head _=>Q | _,.tail _ (.head _)=>T),U⟩
def ZAz {cs o:List Int} (z:Zq o) (A:o.length≤999999) {p:Bool} {a b c d:Int} (C:a=13) (D:HD cs o p a b c d):Ret (MR cs) ((YZ (Za o) p).bind fun (f:Int×LL×Bool)=>
 (ZDM f.2.1 f.2.2).bind fun (e:Qt17)=>
 Xa (a,b,c,d,f.1,0,0,0,0,0,0,Xc,0,0,0,0,0,0,0,0,0,0,0,0,0,0,0,0,0,0,0,0,E0,0,0,0,0,0,0,Xc,E0,E0,E0,E0,0,0,E0,E0,E0,E0,E0,E0,E0,E0,e.1,e.2.1,e.2.2.1,e.2.2.2.1,(d4 e).1,(d4 e).2.1,(d6 e).1,(d6 e).2.1,(d8 e).1,(d8 e).2.1,(df e).1,(df e).2.1,(dg e).1,(dg e).2.1,(dh e).1,(dh e).2.1,(P2 e).1,(P2 e).2.1,(d2 (P2 e)).1,(d2 (P2 e)).2.1,(d4 (P2 e)).1,(d4 (P2 e)).2)):=by
  refine Zb (VN z p) fun r ⟨E,W,G,i,q⟩=>?_
  (try dsimp only at i);subst i
  refine Zb (ZLm q.by' (q.le A) G) fun r ⟨s,H,J,i,j⟩=>?_
  (try dsimp only at i);subst i
  refine Zf ⟨{ Zdi a b c d with round:=E,report:=s },H,J,rfl,⟨(Zp 1000000 a b c d).req,(Zp 1000000 a b c d).nodes,(Zp 1000000 a b c d).ids,(Zp 1000000 a b c d).cores,(Zp 1000000 a b c d).moves,(Zp 1000000 a b c d).next,(Zp 1000000 a b c d).state,j.tot⟩,fun w k L=>?_⟩;obtain ⟨v,M,N,O,Q,l⟩:=D w k L;have m:kf w.kind.toNat = [8,10]:=by rw [← v,C];rfl
  rw [m] at l;have x:∀ g∈([8,10] : List Nat),Zh w g=Xb:=by have y:=k.valid;simp only [Z1,Xj,Xo] at y;rw [← m];exact y.2.1
  obtain ⟨R,S,T⟩:=q.post _ _ Q (gf8 k.good (x 8 (by decide))) l;obtain ⟨t,X,U⟩:=j.post _ _ T (ZKk k.good (x 10 (by decide))) S;exact ⟨KM k [8,10] m v M N O (fun g u m=>match g,m with | 0,_=>rfl | 1,_=>rfl | 2,_=>rfl | 3,_=>rfl | 4,_=>rfl | 5,_=>rfl | 6,_=>rfl | 7,_=>rfl | 8,h=>absurd (by decide) h | 9,_=>rfl | 10,h=>absurd (by decide) h | 11,_=>rfl | 12,_=>rfl | 13,_=>rfl | 14,_=>rfl | n+15,_=>absurd u (by omega)) (fun g u=>match g,u with | _,.head _=>R | _,.tail _ (.head _)=>t),U⟩
def ZBp {cs y:List Int} (O:Zq y) (z:y.length≤999999) {A:Bool} {a b c d:Int} (Q:a=14) (R:HD cs y A a b c d):Ret (MR cs) ((YZ (Za y) A).bind fun (m:Int×LL×Bool)=>
 (YZ m.2.1 m.2.2).bind fun (o:Int×LL×Bool)=>
 (Zrw o.2.1 o.2.2).bind fun (p:LL×LL×Bool)=>
 (Zym p.2.1 p.2.2).bind fun (i:Int×LL×LL×LL×Bool)=>
 (Zyn i.2.2.2.1 i.2.2.2.2).bind fun (e:Qt35)=>
 Xa (a,b,c,d,m.1,0,0,0,0,0,0,Xc,0,0,0,0,0,0,0,0,0,0,0,0,0,0,0,0,0,0,0,0,E0,0,0,0,0,0,0,Xc,E0,E0,p.1,E0,o.1,i.1,i.2.1,i.2.2.1,e.1,e.2.1,e.2.2.1,e.2.2.2.1,(d4 e).1,(d4 e).2.1,0,0,E0,E0,E0,E0,E0,E0,E0,E0,Xc,0,E0,E0,E0,E0,E0,E0,E0,E0,(d6 e).1,e.2.2.2.2.2.2.2)):=by
  refine Zb (VN O A) fun r ⟨S,c5,T,f,q⟩=>?_
  (try dsimp only at f);subst f
  refine Zb (VN q.by' T) fun r ⟨C,c6,U,f,j⟩=>?_
  (try dsimp only at f);subst f
  refine Zb (ZyQ j.by' (j.le (q.le z)) U) fun r ⟨W,c7,X,f,s⟩=>?_
  (try dsimp only at f);subst f
  refine Zb (ZEP s.by' (s.le (j.le (q.le z))) X) fun r ⟨D,c8,Y,f,k⟩=>?_
  (try dsimp only at f);subst f
  refine Zb (ZE1 k.by' (k.le (s.le (j.le (q.le z)))) Y) fun r ⟨E,Z,f9,f,t⟩=>?_
  (try dsimp only at f);subst f
  refine Zf ⟨{ Zdi a b c d with round:=S,base:=C,cores:=W,next:=D,state:=E },Z,f9,rfl,⟨(Zp 1000000 a b c d).req,(Zp 1000000 a b c d).nodes,(Zp 1000000 a b c d).ids,s.tot.1,(Zp 1000000 a b c d).moves,k.tot,t.tot,(Zp 1000000 a b c d).report⟩,fun w l he=>?_⟩;obtain ⟨M,e2,e3,e4,e5,u⟩:=R w l he;have v:kf w.kind.toNat = [8,11,9,12,13]:=by rw [← M,Q];rfl
  rw [v] at u;have x:∀ g∈([8,11,9,12,13] : List Nat),Zh w g=Xb:=by have N:=l.valid;simp only [Z1,Xj,Xo] at N;rw [← v];exact N.2.1
  obtain ⟨x8,s0,b0⟩:=q.post _ _ e5 (gf8 l.good (x 8 (by decide))) u;obtain ⟨G,s1,b1⟩:=j.post _ _ b0 (ZKi l.good (x 11 (by decide))) s0;obtain ⟨x9,s2,b2⟩:=s.post _ _ b1 (gf9 l.good (x 9 (by decide))) s1;obtain ⟨H,s3,b3⟩:=k.post _ _ b2 (ZJV l.good (x 12 (by decide))) s2;obtain ⟨J,s4,b4⟩:=t.post _ _ b3 (ZJx l.good (x 13 (by decide))) s3;exact ⟨KM l [8,11,9,12,13] v M e2 e3 e4 (fun g L v=>match g,v with | 0,_=>rfl | 1,_=>rfl | 2,_=>rfl | 3,_=>rfl | 4,_=>rfl | 5,_=>rfl | 6,_=>rfl | 7,_=>rfl | 8,h=>absurd (by decide) h | 9,h=>absurd (by decide) h | 10,_=>rfl | 11,h=>absurd (by decide) h | 12,h=>absurd (by decide) h | 13,h=>absurd (by decide) h | 14,_=>rfl | n+15,_=>absurd L (by omega)) (fun g L=>match g,L with | _,.head _=>x8 | _,.tail _ (.head _)=>G | _,.tail _ (.tail _ (.head _))=>x9 | _,.tail _ (.tail _ (.tail _ (.head _)))=>H | _,.tail _ (.tail _ (.tail _ (.tail _ (.head _))))=>J),b4⟩
def ZCB {cs j:List Int} (s:Zq j) (M:j.length≤999999) {l:Bool} {a b c d:Int} (t:a=15) (u:HD cs j l a b c d):Ret (MR cs) ((YZ (Za j) l).bind fun (e:Int×LL×Bool)=>
 Xa (a,b,c,d,e.1,0,0,0,0,0,0,Xc,0,0,0,0,0,0,0,0,0,0,0,0,0,0,0,0,0,0,0,0,E0,0,0,0,0,0,0,Xc,E0,E0,E0,E0,0,0,E0,E0,E0,E0,E0,E0,E0,E0,0,0,E0,E0,E0,E0,E0,E0,E0,E0,Xc,0,E0,E0,E0,E0,E0,E0,E0,E0,e.2.1,e.2.2)):=by
  refine Zb (VN s l) fun r ⟨v,x,y,o,z⟩=>?_
  (try dsimp only at o);subst o
  refine Zf ⟨{ Zdi a b c d with round:=v },x,y,rfl,⟨(Zp 1000000 a b c d).req,(Zp 1000000 a b c d).nodes,(Zp 1000000 a b c d).ids,(Zp 1000000 a b c d).cores,(Zp 1000000 a b c d).moves,(Zp 1000000 a b c d).next,(Zp 1000000 a b c d).state,(Zp 1000000 a b c d).report⟩,fun w k A=>?_⟩;obtain ⟨p,C,D,E,G,f⟩:=u w k A;have i:kf w.kind.toNat = [8]:=by rw [← p,t];rfl
  rw [i] at f;have H:∀ g∈([8] : List Nat),Zh w g=Xb:=by have q:=k.valid;simp only [Z1,Xj,Xo] at q;rw [← i];exact q.2.1
  obtain ⟨J,N,L⟩:=z.post _ _ G (gf8 k.good (H 8 (by decide))) f;exact ⟨KM k [8] i p C D E (fun g m i=>match g,i with | 0,_=>rfl | 1,_=>rfl | 2,_=>rfl | 3,_=>rfl | 4,_=>rfl | 5,_=>rfl | 6,_=>rfl | 7,_=>rfl | 8,h=>absurd (by decide) h | 9,_=>rfl | 10,_=>rfl | 11,_=>rfl | 12,_=>rfl | 13,_=>rfl | 14,_=>rfl | n+15,_=>absurd m (by omega)) (fun g m=>match g,m with | _,.head _=>J),L⟩
def ZBX {cs j:List Int} (s:Zq j) (M:j.length≤999999) {l:Bool} {a b c d:Int} (t:a=16) (u:HD cs j l a b c d):Ret (MR cs) ((YZ (Za j) l).bind fun (e:Int×LL×Bool)=>
 Xa (a,b,c,d,e.1,0,0,0,0,0,0,Xc,0,0,0,0,0,0,0,0,0,0,0,0,0,0,0,0,0,0,0,0,E0,0,0,0,0,0,0,Xc,E0,E0,E0,E0,0,0,E0,E0,E0,E0,E0,E0,E0,E0,0,0,E0,E0,E0,E0,E0,E0,E0,E0,Xc,0,E0,E0,E0,E0,E0,E0,E0,E0,e.2.1,e.2.2)):=by
  refine Zb (VN s l) fun r ⟨v,x,y,o,z⟩=>?_
  (try dsimp only at o);subst o
  refine Zf ⟨{ Zdi a b c d with round:=v },x,y,rfl,⟨(Zp 1000000 a b c d).req,(Zp 1000000 a b c d).nodes,(Zp 1000000 a b c d).ids,(Zp 1000000 a b c d).cores,(Zp 1000000 a b c d).moves,(Zp 1000000 a b c d).next,(Zp 1000000 a b c d).state,(Zp 1000000 a b c d).report⟩,fun w k A=>?_⟩;obtain ⟨p,C,D,E,G,f⟩:=u w k A;have i:kf w.kind.toNat = [8]:=by rw [← p,t];rfl
  rw [i] at f;have H:∀ g∈([8] : List Nat),Zh w g=Xb:=by have q:=k.valid;simp only [Z1,Xj,Xo] at q;rw [← i];exact q.2.1
  obtain ⟨J,N,L⟩:=z.post _ _ G (gf8 k.good (H 8 (by decide))) f;exact ⟨KM k [8] i p C D E (fun g m i=>match g,i with | 0,_=>rfl | 1,_=>rfl | 2,_=>rfl | 3,_=>rfl | 4,_=>rfl | 5,_=>rfl | 6,_=>rfl | 7,_=>rfl | 8,h=>absurd (by decide) h | 9,_=>rfl | 10,_=>rfl | 11,_=>rfl | 12,_=>rfl | 13,_=>rfl | 14,_=>rfl | n+15,_=>absurd m (by omega)) (fun g m=>match g,m with | _,.head _=>J),L⟩
def ZGD {cs l:List Int} (u:Zq l) (Q:l.length≤999999) {m:Bool} {a b c d:Int} (i:∀ w,Zj6 w→a=w.kind→kf w.kind.toNat = [0,2]) (v:HD cs l m a b c d):Ret (MR cs) ((ZoH (Za l) m a b c d 0 0 0 0 0 0 0 Xc 0 0 0 0 0 0 0 0 0 0 0 0 0 0 0 0 0 0 0 0 E0 0 0 0 0 0 0 Xc E0 E0 E0 E0 0 0 E0 E0 E0 E0 E0 E0 E0 E0 0 0 E0 E0 E0 E0 E0 E0 E0 E0 Xc 0 E0 E0 E0 E0 E0 E0 E0 E0).bind fun (e:Qt2)=>
 Xa (e.1,e.2.1,e.2.2.1,e.2.2.2.1,(d4 e).1,(d4 e).2.1,(d6 e).1,(d6 e).2.1,(d8 e).1,(d8 e).2.1,(df e).1,(df e).2.1,(dg e).1,(dg e).2.1,(dh e).1,(dh e).2.1,(P2 e).1,(P2 e).2.1,(d2 (P2 e)).1,(d2 (P2 e)).2.1,(d4 (P2 e)).1,(d4 (P2 e)).2.1,(d6 (P2 e)).1,(d6 (P2 e)).2.1,(d8 (P2 e)).1,(d8 (P2 e)).2.1,(df (P2 e)).1,(df (P2 e)).2.1,(dg (P2 e)).1,(dg (P2 e)).2.1,(dh (P2 e)).1,(dh (P2 e)).2.1,(di e).1,(di e).2.1,(d2 (di e)).1,(d2 (di e)).2.1,(d4 (di e)).1,(d4 (di e)).2.1,(d6 (di e)).1,(d6 (di e)).2.1,(d8 (di e)).1,(d8 (di e)).2.1,(df (di e)).1,(df (di e)).2.1,(dg (di e)).1,(dg (di e)).2.1,(dh (di e)).1,(dh (di e)).2.1,(dj e).1,(dj e).2.1,(d2 (dj e)).1,(d2 (dj e)).2.1,(d4 (dj e)).1,(d4 (dj e)).2.1,(d6 (dj e)).1,(d6 (dj e)).2.1,(d8 (dj e)).1,(d8 (dj e)).2.1,(df (dj e)).1,(df (dj e)).2.1,(dg (dj e)).1,(dg (dj e)).2.1,(dh (dj e)).1,(dh (dj e)).2.1,(dk e).1,(dk e).2.1,(d2 (dk e)).1,(d2 (dk e)).2.1,(d4 (dk e)).1,(d4 (dk e)).2.1,(d6 (dk e)).1,(d6 (dk e)).2.1,(d8 (dk e)).1,(d8 (dk e)).2.1,(df (dk e)).1,(df (dk e)).2)):=by
  refine Zb (ZAJ u m (Zdi a b c d)) fun r ⟨x,y,R,z,S,A,p,C,D⟩=>?_
  (try dsimp only at p);subst p
  refine Zf ⟨{ Zdi a b c d with region:=x,op:=y },z,A,rfl,⟨(Zp 1000000 a b c d).req,(Zp 1000000 a b c d).nodes,(Zp 1000000 a b c d).ids,(Zp 1000000 a b c d).cores,(Zp 1000000 a b c d).moves,(Zp 1000000 a b c d).next,(Zp 1000000 a b c d).state,(Zp 1000000 a b c d).report⟩,fun w f E=>?_⟩;obtain ⟨q,G,H,J,L,j⟩:=v w f E;have k:kf w.kind.toNat = [0,2]:=i w f q;rw [k] at j;have s:∀ g∈([0,2] : List Nat),Zh w g=Xb:=by have t:=f.valid;simp only [Z1,Xj,Xo] at t;rw [← k];exact t.2.1
  obtain ⟨x0,M,N⟩:=C.post _ _ L (gf0 f.good (s 0 (by decide))) j;obtain ⟨x2,T,O⟩:=D.post _ _ N (gf2 f.good (s 2 (by decide))) M;exact ⟨KM f [0,2] k q G H J (fun g o k=>match g,k with | 0,h=>absurd (by decide) h | 1,_=>rfl | 2,h=>absurd (by decide) h | 3,_=>rfl | 4,_=>rfl | 5,_=>rfl | 6,_=>rfl | 7,_=>rfl | 8,_=>rfl | 9,_=>rfl | 10,_=>rfl | 11,_=>rfl | 12,_=>rfl | 13,_=>rfl | 14,_=>rfl | n+15,_=>absurd o (by omega)) (fun g o=>match g,o with | _,.head _=>x0 | _,.tail _ (.head _)=>x2),O⟩
set_option maxHeartbeats 2000000 in
def ZAy {cs y:List Int} (U:Zq y) (L:y.length≤999999) {A:Bool} {a b c d:Int} (W:a=17) (X:HD cs y A a b c d):Ret (MR cs) ((Zrw (Za y) A).bind fun (j:LL×LL×Bool)=>
 (YZ j.2.1 j.2.2).bind fun (l:Int×LL×Bool)=>
 Zq7 Zr l.2.1 l.2.2 0 0 0 0 0 0 0 0 0 0 0 Xc 0 0 0 0 0 0 0 0 0 0 0 0 0 0 0 0 0 0 0 0 E0 0 0 0 0 0 0 Xc E0 E0 E0 E0 0 0 E0 E0 E0 E0 E0 E0 E0 E0 0 0 E0 E0 E0 E0 E0 E0 E0 E0 Xc 0 E0 E0 E0 E0 E0 E0 E0 E0 a b c d 0 0 0 0 0 0 0 Xc 0 0 0 0 0 0 0 0 0 0 0 0 0 0 0 0 0 0 0 0 E0 0 0 0 0 0 0 Xc E0 E0 j.1 E0 0 0 E0 E0 E0 E0 E0 E0 E0 E0 0 0 E0 E0 E0 E0 E0 E0 E0 E0 Xc 0 E0 E0 E0 E0 E0 E0 E0 E0 l.1 0):=by
  refine Zb (ZyQ U L A) fun r ⟨M,Y,Z,e,z⟩=>?_
  (try dsimp only at e);subst e
  refine Zb (VN z.by' Z) fun r ⟨n,c0,f0,e,h⟩=>?_
  (try dsimp only at e);subst e
  have o:Y.length≤999999:=(z.le L);refine Zhu (c:=Wk) (G:=ZHM) (T:=TT) (cell:=YE) h.by' (h.le o) (n:=n) (f:=f0) (F:=fun k bb ff q ii=>Zq7 k bb ff 0 0 0 0 0 0 0 0 0 0 0 Xc 0 0 0 0 0 0 0 0 0 0 0 0 0 0 0 0 0 0 0 0 E0 0 0 0 0 0 0 Xc E0 E0 E0 E0 0 0 E0 E0 E0 E0 E0 E0 E0 E0 0 0 E0 E0 E0 E0 E0 E0 E0 E0 Xc 0 E0 E0 E0 E0 E0 E0 E0 E0 a b c d 0 0 0 0 0 0 0 Xc 0 0 0 0 0 0 0 0 0 0 0 0 0 0 0 0 0 0 0 0 E0 0 0 0 0 0 0 Xc E0 E0 (Zd M) q 0 0 E0 E0 E0 E0 E0 E0 E0 E0 0 0 E0 E0 E0 E0 E0 E0 E0 E0 Xc 0 E0 E0 E0 E0 E0 E0 E0 E0 n ii) (fun k N q i C aa O ab hi ih=>?_) (fun k vs N D i hx h2=>?_)
  · refine Zc (Zma ..) (Zgv hi ?_)
    refine Zb (VN C Xc) fun r ⟨a',c2,D,e,t⟩=>?_
    (try dsimp only at e);subst e
    refine Zb (VN t.by' D) fun r ⟨b',c3,f3,e,E⟩=>?_
    (try dsimp only at e);subst e
    refine Zl (Jn (by simp;omega) (by omega)) (Zl (Jn (by simp;omega) (by omega)) ?_);rw [ZS (n:=i+1) (by omega) (by omega)];exact ih ⟨a',b'⟩ c3 f3 (RR.map (c':=Wk) (G':=ZHM) (T':=TT) (fun p=>(⟨p.1,p.2⟩:ZeF)) (fun s=>(s.region,s.to)) (t.seq E) (fun _=>trivial) fun w m=>⟨m,rfl,rfl⟩)
  · refine Zc (Zma ..) (Zbt hx ?_)
    have u:=ZoG.list o (fun w _=>by have:=VK w.region;simp only [Wk,Xf];omega) h h2;refine Zf ⟨{ Zdi a b c d with cores:=M,moves:=vs },N,D,rfl,⟨(Zp 1000000 a b c d).req,(Zp 1000000 a b c d).nodes,(Zp 1000000 a b c d).ids,z.tot.1,u.tot.1,(Zp 1000000 a b c d).next,(Zp 1000000 a b c d).state,(Zp 1000000 a b c d).report⟩,fun w m he=>?_⟩;obtain ⟨Q,e2,e3,e4,e5,v⟩:=X w m he;have x:kf w.kind.toNat = [9,14]:=by rw [← Q,W];rfl
    rw [x] at v;have R:∀ g∈([9,14] : List Nat),Zh w g=Xb:=by have S:=m.valid;simp only [Z1,Xj,Xo] at S;rw [← x];exact S.2.1
    obtain ⟨x9,s0,b0⟩:=z.post _ _ e5 (gf9 m.good (R 9 (by decide))) v;obtain ⟨H,s1,b1⟩:=u.post _ _ b0 (ZLi m.good (R 14 (by decide))) s0;exact ⟨KM m [9,14] x Q e2 e3 e4 (fun g J x=>match g,x with | 0,_=>rfl | 1,_=>rfl | 2,_=>rfl | 3,_=>rfl | 4,_=>rfl | 5,_=>rfl | 6,_=>rfl | 7,_=>rfl | 8,_=>rfl | 9,h=>absurd (by decide) h | 10,_=>rfl | 11,_=>rfl | 12,_=>rfl | 13,_=>rfl | 14,h=>absurd (by decide) h | n+15,_=>absurd J (by omega)) (fun g J=>match g,J with | _,.head _=>x9 | _,.tail _ (.head _)=>H),b1⟩
def r66 {cs:List Int} (C:Zq cs) (D:cs.length≤999999):Ret (MR cs) (g66 (Za cs) Xc):=by
 rw [ZAO];refine Zb (VN C Xc) fun r ⟨a,c1,E,j,n⟩=>?_
 (try dsimp only at j);subst j
 refine Zb (VN n.by' E) fun r ⟨b,c2,G,j,o⟩=>?_
 (try dsimp only at j);subst j
 refine Zb (VN o.by' G) fun r ⟨c,c3,H,j,p⟩=>?_
 (try dsimp only at j);subst j
 refine Zb (VN p.by' H) fun r ⟨d,z,J,j,q⟩=>?_
 (try dsimp only at j);subst j
 have f:=q.by'
 have g:z.length≤999999:=q.le (p.le (o.le (n.le D)))
 have i:HD cs z J a b c d:=fun w m L=>by
  have l:=m.valid;unfold Z1 headOk kindOk at l;simp only [Xj] at l;obtain ⟨⟨⟨⟨A,M⟩,N⟩,O⟩,_⟩:=l;have A:=of_decide_eq_true A
  have Q:cs=nB w.kind++(nB w.view++(nB w.frm++(nB w.to++((kf w.kind.toNat).map (ZZ w)).flatten))):=by
   rw [← L];simp only [ZeY,Yk,Xl]
  obtain ⟨R,S,T⟩:=n.post _ _ rfl (n35 (a:=17) (by omega) (by omega) (by decide)) Q;obtain ⟨U,W,X⟩:=o.post _ _ T (ZrW M) S;obtain ⟨Y,Z,b3⟩:=p.post _ _ X (ZcE N) W;obtain ⟨e4,r4,b4⟩:=q.post _ _ b3 (ZcE O) Z;exact ⟨R,U,Y,e4,b4,r4⟩
 have k:∀ w:Msg,Zj6 w→1≤w.kind∧w.kind≤17:=fun w m=>by
  have l:=m.valid;unfold Z1 headOk kindOk at l;simp only [Xj,P5] at l;exact l.1.1.1.1
 clear n o p q;refine Zo (fun h=>ZFK f g (by simpa [P0] using h) i) fun n1=>?_;refine Zo (fun h=>ZFL f g (by simpa [P0] using h) i) fun n2=>?_;refine Zo (fun h=>ZHz f g (by simpa [P0] using h) i) fun n4=>?_;refine Zo (fun h=>ZEU f g (by simpa [P0] using h) i) fun n5=>?_;refine Zo (fun h=>ZEw f g (by simpa [P0] using h) i) fun n6=>?_;refine Zo (fun h=>ZBz f g (by simpa [P0] using h) i) fun s=>?_;refine Zo (fun h=>ZAz f g (by simpa [P0] using h) i) fun t=>?_;refine Zo (fun h=>ZBp f g (by simpa [P0] using h) i) fun u=>?_;refine Zo (fun h=>ZCB f g (by simpa [P0] using h) i) fun v=>?_;refine Zo (fun h=>ZBX f g (by simpa [P0] using h) i) fun x=>?_;refine Zo (fun h=>ZAy f g (by simpa [P0] using h) i) fun y=>?_;refine ZGD f g (fun w m e=>?_) i;have h:=k w m;simp only [CQ] at n1 n2 n4 n5 n6 s t u v x y;rw [← e] at h ⊢;have:a.toNat=3∨a.toNat=7∨a.toNat=8∨a.toNat=9∨a.toNat=10∨a.toNat=11:=by omega
 rcases this with e | e | e | e | e | e<;>rw [e]<;>rfl
def s18 {cs:List Int} (i:Zq cs) (l:cs.length≤999999):Ret (ZCi cs) (g18 (Za cs)):=by
 rw [Zy7];refine Zb (r66 i l) fun r ⟨m,n,f',j,o,f⟩=>?_
 (try dsimp only at j);subst j
 obtain ⟨g,k⟩:=Zlt (Xr _) o;refine Jb (s15 m g.fits fun a=>Zbu g k a) ?_;refine Zo (fun d=>Zf (.inr ⟨fun w b c=>?_,rfl⟩)) fun d=>?_
 ·have p:=(f w b c).2;have d:f'=Xb:=d;rw [p] at d;cases d
 by_cases a:Z1 m=Xb
 ·rw [P4 a];have q:Zj6 m:=⟨Zbu g k a,a⟩;refine Zc (P3 (Zt (by kernel_rfl))) ?_;refine Jb (s67 (Zo0 m) i) ?_;refine Zo (fun h=>Zf (.inr ⟨fun w b c=>?_,rfl⟩)) fun h=>Zf (.inl ⟨m,q,?_,rfl⟩)
  ·have e:=(f w b c).1;rw [e,c] at h;simp at h
  ·simpa using h
 ·rw [P3 a];refine Zc (P4 (by kernel_rfl)) (Zf (.inr ⟨fun w b c=>?_,rfl⟩));have e:=(f w b c).1;rw [e] at a;exact a b.valid
end Go.Proofs.YtjldbnbdcmfbmaaGreat
