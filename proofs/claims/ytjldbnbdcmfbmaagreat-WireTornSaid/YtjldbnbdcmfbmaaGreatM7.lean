/- W8r, W8t, W8u, W8v: texts of the proof, put together. -/
import Derived.Test.YtjldbnbdcmfbmaaGreatM6

section
namespace Go.Proofs.YtjldbnbdcmfbmaaGreat
open Go Go.AM
set_option linter.unusedSimpArgs false
set_option linter.unusedVariables false
set_option maxRecDepth 100000
def ZEM {α:Type} (c:α→List Int) (G:α→Prop) (rem:List Int) (bad:Bool) (v:α) (rem':List Int) (bad':Bool):Prop:=
 ∀ w rest,bad=false→G w→rem=c w++rest→v=w∧rem'=rest∧bad'=false
structure WR {α:Type} (c:α→List Int) (G T:α→Prop) (bs:List Int) (off:Nat) (f:Bool) (v:α) (o:Nat) (f':Bool):Prop where
 le:o≤bs.length
 tot:T v
 post:ZEM c G (bs.drop off) f v (bs.drop o) f'
theorem WR.seq {α β:Type} {c1:α→List Int} {G1 T1:α→Prop} {c2:β→List Int} {G2 T2:β→Prop} {bs:List Int} {off o1 o2:Nat} {f f1 f2:Bool} {v1:α} {v2:β} (h1:WR c1 G1 T1 bs off f v1 o1 f1) (h2:WR c2 G2 T2 bs o1 f1 v2 o2 f2) :
  WR (fun w:α×β=>c1 w.1++c2 w.2) (fun w=>G1 w.1∧G2 w.2) (fun w=>T1 w.1∧T2 w.2) bs off f (v1,v2) o2 f2:=by
 refine ⟨h2.le,⟨h1.tot,h2.tot⟩,fun w rest hf hG hrem=>?_⟩
 rw [List.append_assoc] at hrem
 obtain ⟨e1,r1,b1⟩:=h1.post w.1 _ hf hG.1 hrem
 obtain ⟨e2,r2,b2⟩:=h2.post w.2 _ b1 hG.2 r1
 exact ⟨by rw [e1,e2],r2,b2⟩
theorem WR.map {α β:Type} {c:α→List Int} {G T:α→Prop} {c':β→List Int} {G' T':β→Prop} {bs:List Int} {off o:Nat} {f f':Bool} {v:α} (e:α→β) (d:β→α) (h:WR c G T bs off f v o f') (hT:T v→T' (e v)) (hc:∀ w,G' w→G (d w)∧c' w=c (d w)∧e (d w)=w) :
  WR c' G' T' bs off f (e v) o f':=by
 refine ⟨h.le,hT h.tot,fun w rest hf hG hrem=>?_⟩
 obtain ⟨h1,h2,h3⟩:=hc w hG
 rw [h2] at hrem
 obtain ⟨e1,r1,b1⟩:=h.post _ _ hf h1 hrem
 exact ⟨by rw [e1,h3],r1,b1⟩
theorem Zdp (v:Nat):(uv v).length=uvN v:=Kj v
theorem ZcN {bs c rest:List Int} {off k:Nat} (h:bs.drop off=c++rest) (hk:k=c.length):bs.drop (off+k)=rest:=by
 rw [← List.drop_drop,h,hk,List.drop_left]
theorem w63 {bs:List Int} (hb:Zv bs) (hl:bs.length≤1000000) (off:Nat) (ho:off≤bs.length) (f:Bool):Ret (fun r=>∃ (v:Int) (o:Nat) (f':Bool),r=(v,Zd bs,(o:Int),f')∧WR nB N63 N63 bs off f v o f') (g63 (Zd bs) off f):=by
 have z63:N63 0:=⟨by decide,by decide⟩
 have bad:∀ f':Bool,(f=true∨∀ w,N63 w→∀ rest,bs.drop off≠nB w++rest)→WR nB N63 N63 bs off f 0 off f':=fun f' h=>⟨ho,z63,fun w rest hf hG hrem=>by
  rcases h with h | h
  ·rw [h] at hf;cases hf
  ·exact absurd hrem (h w hG rest)⟩
 rw [ZwI]
 refine Zl (fun h=>Zg ⟨0,off,f,rfl,bad f (.inl h)⟩) fun hf=>?_
 have hbd:Zv (bs.drop off):=fun z hz=>hb z (List.mem_of_mem_drop hz)
 have h:=ZAC hb hl off ho
 have rdn:∀ w,N63 w→∀ rest,bs.drop off=nB w++rest→rd 0 (bs.drop off)=some (w.toNat,uvN w.toNat):=fun w hw rest hr=>by
  rw [hr];exact Zfw (by have:=hw.2;omega) rest
 cases hr:rd 0 (bs.drop off) with
 | none =>
  rw [hr] at h
  obtain ⟨e,he,h⟩:=h
  refine Jc h ?_
  refine Ze (if_pos (by simp only [CQ];exact he)) (Zg ⟨0,off,true,rfl,bad true (.inr fun w hw rest h=>?_)⟩)
  have:=rdn w hw rest h
  rw [hr] at this;cases this
 | some p =>
  obtain ⟨w,k⟩:=p
  rw [hr] at h
  dsimp only at h
  obtain ⟨g1,_,g3,_⟩:=Zlw _ 0 _ _ hbd (by omega) hr
  rw [List.length_drop] at g3
  refine Jc h (Ze (if_neg (by simp only [CQ];exact fun h=>h rfl)) ?_)
  refine Zl (fun h2=>Zg ⟨0,off,true,rfl,bad true (.inr fun x hx rest h=>?_)⟩) fun h2=>?_
  ·simp only [CQ] at h2
   have:=rdn x hx rest h
   rw [hr] at this
   have e:=(Prod.mk.inj (Option.some.inj this)).1
   have:=hx.2;omega
  ·simp only [CQ] at h2
   have hw:IntKind.wrap .i64 (w:Int)=(w:Int):=KO (by omega) (by omega)
   refine Zg ⟨(w:Int),off+k,f,by show (IntKind.wrap .i64 (w:Int),Zd bs,((off+k:Nat):Int),f)=_;rw [hw],⟨by omega,⟨by omega,by omega⟩,fun x rest _ hx hrem=>?_⟩⟩
   have:=rdn x hx rest hrem
   rw [hr] at this
   obtain ⟨e1,e2⟩:=Prod.mk.inj (Option.some.inj this)
   refine ⟨by have:=hx.1;omega,ZcN hrem (by rw [e2];exact (Zdp _).symm),by simpa using hf⟩
theorem ZsT {w:Nat} (hw:w < 2^64):iop .shr .u64 (w:Int) 1=((w / 2:Nat):Int):=by
 have hmin:min ((1:Int)).toNat IntKind.u64.bits=1:=by decide
 simp only [iop,hmin]
 rw [Int.fdiv_eq_ediv_of_nonneg _ (by decide)]
 omega
theorem ZsO {w:Nat} (hw:w < 2^64):iop .and .u64 (w:Int) 1=((w % 2:Nat):Int):=by
 have e:(BitVec.ofInt 64 (w:Int)&&& BitVec.ofInt 64 1).toNat=w % 2:=by
  rw [BitVec.toNat_and,BitVec.toNat_ofInt,BitVec.toNat_ofInt]
  have e1:(((w:Int)) % ((2^64:Nat):Int)).toNat=w:=by rw [show ((2^64:Nat):Int)=18446744073709551616 by decide];omega
  have e2:(((1:Int)) % ((2^64:Nat):Int)).toNat=1:=by decide
  rw [e1,e2,Nat.and_one_is_mod]
 show IntKind.wrap .u64 (((BitVec.ofInt 64 (w:Int)&&& BitVec.ofInt 64 1).toNat:Nat):Int)=_
 rw [e,JL (by omega) (by omega)]
def svV (w:Nat):Int:=if w % 2=1 then -((w / 2:Nat):Int)-1 else ((w / 2:Nat):Int)
theorem ZtI {w:Nat} (hw:w < 2^64):Rng (svV w):=by
 unfold svV Rng
 split<;>constructor<;>omega
theorem ZxT {z:Int} (h:Rng z):svV (sgV z).toNat=z:=by
 have hv:=ZiJ h
 unfold svV
 rw [hv]
 split<;>split<;>omega
theorem Zmp {bs:List Int} (hb:Zv bs) (hl:bs.length≤1000000) (off:Nat) (ho:off≤bs.length) (f:Bool):Ret (fun r=>∃ (v:Int) (o:Nat) (f':Bool),r=(v,Zd bs,(o:Int),f')∧WR sgB Rng Rng bs off f v o f') (ZkJ (Zd bs) off f):=by
 have z63:Rng 0:=⟨by decide,by decide⟩
 have bad:∀ f':Bool,(f=true∨∀ w,Rng w→∀ rest,bs.drop off≠sgB w++rest)→WR sgB Rng Rng bs off f 0 off f':=fun f' h=>⟨ho,z63,fun w rest hf hG hrem=>by
  rcases h with h | h
  ·rw [h] at hf;cases hf
  ·exact absurd hrem (h w hG rest)⟩
 rw [ZuG]
 refine Zl (fun h=>Zg ⟨0,off,f,rfl,bad f (.inl h)⟩) fun hf=>?_
 have hbd:Zv (bs.drop off):=fun z hz=>hb z (List.mem_of_mem_drop hz)
 have h:=ZAC hb hl off ho
 have rdn:∀ w,Rng w→∀ rest,bs.drop off=sgB w++rest→rd 0 (bs.drop off)=some ((sgV w).toNat,uvN (sgV w).toNat):=fun w hw rest hr=>by
  rw [hr];exact Zfw (by have:=(Zcu w).2;have:=(Zcu w).1;have:(2:Int)^64=((2^64:Nat):Int):=(by decide);omega) rest
 rw [Zrq]
 cases hr:rd 0 (bs.drop off) with
 | none =>
  rw [hr] at h
  obtain ⟨e,he,h⟩:=h
  rw [h,Option.bind_some]
  refine Jc (if_pos (by simp only [CQ];exact he)) ?_
  refine Ze (if_pos (by simp only [CQ];exact he)) (Zg ⟨0,off,true,rfl,bad true (.inr fun w hw rest h=>?_)⟩)
  have:=rdn w hw rest h
  rw [hr] at this;cases this
 | some p =>
  obtain ⟨w,k⟩:=p
  rw [hr] at h
  dsimp only at h
  obtain ⟨g1,_,g3,_⟩:=Zlw _ 0 _ _ hbd (by omega) hr
  have hw64:w < 2^64:=g1
  rw [List.length_drop] at g3
  rw [h,Option.bind_some]
  have hval:(if (cop .neq (0:Int) 0)=true then some ((0:Int),(0:Int),(0:Int)) else Zz ((0:Int)≤1)<|if (cop .eql (iop .and .u64 (w:Int) 1) 1)=true then some ((iop .sub .i64 (iop .sub .i64 0 (IntKind.wrap .i64 (iop .shr .u64 (w:Int) 1))) 1),(((off+k:Nat):Int)),(0:Int)) else some ((IntKind.wrap .i64 (iop .shr .u64 (w:Int) 1)),(((off+k:Nat):Int)),(0:Int)))=some (svV w,((off+k:Nat):Int),0):=by
   have e1:IntKind.wrap .i64 ((w / 2:Nat):Int)=((w / 2:Nat):Int):=KO (by omega) (by omega)
   rw [if_neg (by decide),Zj (by decide),ZsO hw64,ZsT hw64,e1]
   unfold svV
   refine JD (fun h1=>?_) fun h1=>?_
   ·simp only [CQ] at h1
    have e2:iop .sub .i64 0 ((w / 2:Nat):Int) = -((w / 2:Nat):Int):=by rw [Zd3 (by omega) (by omega)];omega
    rw [if_pos (by omega),e2,Zd3 (by omega) (by omega)]
   ·simp only [CQ] at h1
    rw [if_neg (by omega)]
  refine Jc hval (Ze (if_neg (by simp only [CQ];exact fun h=>h rfl)) ?_)
  refine Zg ⟨svV w,off+k,f,rfl,⟨by omega,ZtI hw64,fun x rest _ hx hrem=>?_⟩⟩
  have:=rdn x hx rest hrem
  rw [hr] at this
  obtain ⟨e1,e2⟩:=Prod.mk.inj (Option.some.inj this)
  exact ⟨by rw [e1,ZxT hx],ZcN hrem (by rw [e2];exact (Zdp _).symm),by simpa using hf⟩
structure CR (bs:List Int) (off:Nat) (f:Bool) (v:Nat) (o:Nat) (f':Bool):Prop where
 le:o≤bs.length
 tot:o+v≤bs.length
 post:∀ (n:Nat) rest,f=false→n < 2^63→bs.drop off=nB (n:Int)++rest→n≤rest.length→v=n∧bs.drop o=rest∧f'=false
theorem ZoX {bs:List Int} (hb:Zv bs) (hl:bs.length≤1000000) (off:Nat) (ho:off≤bs.length) (f:Bool):Ret (fun r=>∃ (v o:Nat) (f':Bool),r=((v:Int),Zd bs,(o:Int),f')∧CR bs off f v o f') (Zmm (Zd bs) off f):=by
 rw [Zto]
 refine Zc (w63 hb hl off ho f) fun r ⟨v,o,f1,hr,h⟩=>?_
 subst hr
 have hle:=h.le
 dsimp only
 rw [ZV,Zd3 (by omega) (by omega)]
 have hN:=h.tot
 refine Zl (fun h1=>Zg ⟨0,o,true,rfl,⟨hle,by omega,fun n rest hf hn hrem hnl=>?_⟩⟩) fun h1=>Zg ⟨v.toNat,o,f1,by rw [Int.toNat_of_nonneg hN.1],⟨hle,?_,fun n rest hf hn hrem hnl=>?_⟩⟩
 ·simp only [CQ] at h1
  obtain ⟨e,r,_⟩:=h.post n rest hf ⟨by omega,by omega⟩ hrem
  have:=congrArg List.length r
  rw [List.length_drop] at this
  omega
 ·simp only [CQ] at h1
  omega
 ·obtain ⟨e,r,b⟩:=h.post n rest hf ⟨by omega,by omega⟩ hrem
  exact ⟨by omega,r,b⟩
theorem YK {a b:LL} {k:Nat} (h:a.length+b.length≤2000000) (hk:k≤400):Je a b k:=by
 unfold Je JE
 have:(a.length+b.length)*(k+1)≤2000000*401:=Nat.mul_le_mul h (by omega)
 omega
structure LR {α:Type} (c:α→List Int) (G T:α→Prop) (bs:List Int) (n off:Nat) (f:Bool) (vs:List α) (o:Nat) (f':Bool):Prop where
 le:o≤bs.length
 len:vs.length=n
 tot:∀ v∈vs,T v
 post:∀ ws rest,f=false→ws.length=n→(∀ w∈ws,G w)→bs.drop off=(ws.map c).flatten++rest→vs=ws∧bs.drop o=rest∧f'=false
theorem LR.snoc {α:Type} {c:α→List Int} {G T:α→Prop} {bs:List Int} {n off o o':Nat} {f f1 f2:Bool} {vs:List α} {v:α} (h:LR c G T bs n off f vs o f1) (h2:WR c G T bs o f1 v o' f2):LR c G T bs (n+1) off f (vs++[v]) o' f2:=by
 refine ⟨h2.le,by simp [h.len],fun x hx=>?_,fun ws rest hf hn hG hrem=>?_⟩
 ·rw [List.mem_append,List.mem_singleton] at hx
  rcases hx with hx | rfl
  ·exact h.tot x hx
  ·exact h2.tot
 ·obtain ⟨ws',w,rfl⟩:∃ ws' w,ws=ws'++[w]:=by
   have hne:ws≠[]:=fun hh=>by rw [hh] at hn;cases hn
   exact ⟨ws.dropLast,ws.getLast hne,(List.dropLast_concat_getLast hne).symm⟩
  rw [List.map_append,List.flatten_append,List.append_assoc] at hrem
  simp only [List.map_cons,List.map_nil,List.flatten_cons,List.flatten_nil,List.append_nil] at hrem
  obtain ⟨e1,r1,b1⟩:=h.post ws' _ hf (by simpa using hn) (fun x hx=>hG x (by simp [hx])) hrem
  obtain ⟨e2,r2,b2⟩:=h2.post w rest b1 (hG w (by simp)) r1
  exact ⟨by rw [e1,e2],r2,b2⟩
theorem ZfK {α γ:Type} {P:γ→Prop} {c:α→List Int} {G T:α→Prop} {cell:α→List AV} {bs:List Int} (hl:bs.length≤1000000) {F:Nat→LL→Int→Bool→LL→Int→Option γ} {n off:Nat} {f:Bool} (ho:off≤bs.length) (hn:n≤bs.length)
  (step:∀ k (o:Nat) f1 (acc:LL) (i:Nat),o≤bs.length→i < n→acc.length=i→(∀ v (o':Nat) f2,WR c G T bs o f1 v o' f2→Ret P (F k (Zd bs) (o':Int) f2 (acc++(E0++[cell v])) ((i+1:Nat):Int)))→Ret P (F (k+1) (Zd bs) (o:Int) f1 acc (i:Int)))
  (last:∀ k vs (o:Nat) f1,LR c G T bs n off f vs o f1→Ret P (F (k+1) (Zd bs) (o:Int) f1 (vs.map cell) (n:Int))):Ret P (F ZB (Zd bs) (off:Int) f E0 0):=by
 refine Km (F:=fun k (s:Nat×Bool×LL) z=>F k (Zd bs) (s.1:Int) s.2.1 s.2.2 z) (n:=n) (fun i s=>∃ vs:List α,s.2.2=vs.map cell∧LR c G T bs i off f vs s.1 s.2.1) (by omega) (fun k i s hi hj ih=>?_) (fun k s hj=>?_) (off,f,E0) ⟨[],rfl,⟨ho,rfl,by simp,fun ws rest hf hw _ hrem=>?_⟩⟩
 ·obtain ⟨o,f1,acc⟩:=s
  obtain ⟨vs,hacc,h⟩:=hj
  dsimp only at hacc h
  subst hacc
  refine step k o f1 _ i h.le hi (by rw [List.length_map];exact h.len) fun v o' f2 hv=>?_
  have:=ih (o',f2,vs.map cell++(E0++[cell v])) ⟨vs++[v],by simp,h.snoc hv⟩
  exact this
 ·obtain ⟨o,f1,acc⟩:=s
  obtain ⟨vs,hacc,h⟩:=hj
  dsimp only at hacc h
  subst hacc
  exact last k vs o f1 h
 ·have:ws = []:=List.eq_nil_of_length_eq_zero hw
  subst this
  exact ⟨rfl,by simpa using hrem,hf⟩
theorem ZnY {α:Type} {c:α→List Int} {G:α→Prop} (hp:∀ w,G w→1≤(c w).length):∀ ws:List α,(∀ w∈ws,G w)→ws.length≤((ws.map c).flatten).length
 | [], _ => by simp
 | w :: ws, h => by
  have h1:=hp w (h w (by simp))
  have h2:=ZnY hp ws fun x hx=>h x (by simp [hx])
  simp only [List.map_cons,List.flatten_cons,List.length_append,List.length_cons]
  omega
def TL {α:Type} (T:α→Prop) (n:Nat) (l:List α):Prop:=l.length≤n∧∀ x∈l,T x
def GL {α:Type} (G:α→Prop) (l:List α):Prop:=l.length < 2^63∧∀ x∈l,G x
theorem CR.list {α:Type} {c:α→List Int} {G T:α→Prop} {bs:List Int} {n off o o':Nat} {f f1 f2:Bool} {vs:List α} (hp:∀ w,G w→1≤(c w).length) (h1:CR bs off f n o f1) (h2:LR c G T bs n o f1 vs o' f2):WR (ZE c) (GL G) (TL T bs.length) bs off f vs o' f2:=by
 refine ⟨h2.le,⟨by rw [h2.len];have:=h1.tot;omega,h2.tot⟩,fun ws rest hf hG hrem=>?_⟩
 rw [ZE,List.append_assoc] at hrem
 have hge:=ZnY hp ws hG.2
 obtain ⟨e1,r1,b1⟩:=h1.post ws.length _ hf hG.1 hrem (by rw [List.length_append];omega)
 exact h2.post ws rest b1 e1.symm hG.2 r1
theorem Zaa (z:Int):1≤(nB z).length:=by
 show 1≤(uv z.toNat).length
 rw [Zdp,uvN];omega
theorem ZtM (i:Id):1≤(idB i).length:=by
 have:=Zaa i.core
 show 1≤(uv i.core.toNat++uv i.op.toNat++uv i.part.toNat).length
 have h:1≤(uv i.core.toNat).length:=this
 simp only [List.length_append];omega
theorem ZAB {bs:List Int} (hb:Zv bs) (hl:bs.length≤1000000) (off:Nat) (ho:off≤bs.length) (f:Bool):Ret (fun r=>∃ (v:List Int) (o:Nat) (f':Bool),r=(Za v,Zd bs,(o:Int),f')∧WR (ZE nB) (GL N63) (TL N63 bs.length) bs off f v o f') (ZxF (Zd bs) off f):=by
 rw [ZsK]
 refine Zc (ZoX hb hl off ho f) fun r ⟨n,o,f1,hr,h⟩=>?_
 subst hr
 have hnb:=h.tot
 refine ZfK (c:=nB) (G:=N63) (T:=N63) (cell:=Wo) hl (F:=fun k b o f acc i=>Zk8 k b o f acc (n:Int) i) h.le (Nat.le_trans (Nat.le_add_left ..) h.tot) (fun k o1 f1 acc i ho1 hi hacc ih=>?_) (fun k vs o1 f2 h2=>?_)
 ·refine Ze (ZgX ..) (Ze (if_pos (Z6 hi)) ?_)
  refine Zc (w63 hb hl o1 ho1 f1) fun r ⟨v,o2,f2,hr,hv⟩=>?_
  subst hr
  refine Zk (YK (by simp;omega) (by omega)) ?_
  dsimp only
  rw [Z1 hi (by omega)]
  exact ih v o2 f2 hv
 ·refine Ze (ZgX ..) (Ze (if_neg (Z5 (Nat.le_refl _))) (Zg ⟨vs,o1,f2,rfl,h.list (fun w _=>Zaa w) h2⟩))
def T3 (i:Id):Prop:=N63 i.core∧N63 i.op∧N63 i.part
theorem Zss {i:Id} (h:i.Small):N63 i.core∧N63 i.op∧N63 i.part:=by
 have h40:(2:Int)^40=1099511627776:=by decide
 obtain ⟨h1,h2,h3,h4,h5,h6⟩:=h
 exact ⟨⟨h1,by omega⟩,⟨h3,by omega⟩,⟨h5,by omega⟩⟩
theorem Zw8 {bs:List Int} (hb:Zv bs) (hl:bs.length≤1000000) (off:Nat) (ho:off≤bs.length) (f:Bool):Ret (fun r=>∃ (v:Id) (o:Nat) (f':Bool),r=(v.core,v.op,v.part,Zd bs,(o:Int),f')∧WR idB Id.Small T3 bs off f v o f') (ZuD (Zd bs) off f):=by
 rw [ZtC]
 refine Zc (w63 hb hl off ho f) fun r ⟨a,o1,f1,hr,h1⟩=>?_
 subst hr
 refine Zc (w63 hb hl o1 h1.le f1) fun r ⟨b,o2,f2,hr,h2⟩=>?_
 subst hr
 refine Zc (w63 hb hl o2 h2.le f2) fun r ⟨c,o3,f3,hr,h3⟩=>?_
 subst hr
 exact Zg ⟨⟨a,b,c⟩,o3,f3,rfl,(h1.seq (h2.seq h3)).map (fun p=>(⟨p.1,p.2.1,p.2.2⟩:Id)) (fun i=>(i.core,i.op,i.part)) id fun w hw=>⟨Zss hw,by simp [idB,nB],rfl⟩⟩
theorem ZCX {bs:List Int} (hb:Zv bs) (hl:bs.length≤1000000) (off:Nat) (ho:off≤bs.length) (f:Bool):Ret (fun r=>∃ (v:List Id) (o:Nat) (f':Bool),r=(Zb v,Zd bs,(o:Int),f')∧WR (ZE idB) (GL Id.Small) (TL T3 bs.length) bs off f v o f') (Zyu (Zd bs) off f):=by
 rw [Zul]
 refine Zc (ZoX hb hl off ho f) fun r ⟨n,o,f1,hr,h⟩=>?_
 subst hr
 have hnb:=h.tot
 refine ZfK (c:=idB) (G:=Id.Small) (T:=T3) (cell:=idc) hl (F:=fun k b o f acc i=>Zj7 k b o f acc (n:Int) i) h.le (Nat.le_trans (Nat.le_add_left ..) h.tot) (fun k o1 f1 acc i ho1 hi hacc ih=>?_) (fun k vs o1 f2 h2=>?_)
 ·refine Ze (Zh1 ..) (Ze (if_pos (Z6 hi)) ?_)
  refine Zc (Zw8 hb hl o1 ho1 f1) fun r ⟨v,o2,f2,hr,hv⟩=>?_
  subst hr
  refine Zk (YK (by simp;omega) (by omega)) ?_
  dsimp only
  rw [Z1 hi (by omega)]
  exact ih v o2 f2 hv
 ·refine Ze (Zh1 ..) (Ze (if_neg (Z5 (Nat.le_refl _))) (Zg ⟨vs,o1,f2,rfl,h.list (fun w _=>ZtM w) h2⟩))
theorem ZEx {bs:List Int} (hb:Zv bs) (hl:bs.length≤1000000) (off:Nat) (ho:off≤bs.length) (f:Bool):Ret (fun r=>∃ (v:List Zff) (o:Nat) (f':Bool),r=(v.map ZZ,Zd bs,(o:Int),f')∧WR (ZE Zas) (GL fun x=>N63 x.region∧N63 x.to) (TL (fun x=>N63 x.region∧N63 x.to) bs.length) bs off f v o f') (ZBa (Zd bs) off f):=by
 rw [Zr1]
 refine Zc (ZoX hb hl off ho f) fun r ⟨n,o,f1,hr,h⟩=>?_
 subst hr
 have hnb:=h.tot
 refine ZfK (c:=Zas) (G:=fun x=>N63 x.region∧N63 x.to) (T:=fun x=>N63 x.region∧N63 x.to) (cell:=ZZ) hl (F:=fun k b o f acc i=>ZkI k b o f acc (n:Int) i) h.le (Nat.le_trans (Nat.le_add_left ..) h.tot) (fun k o1 f1 acc i ho1 hi hacc ih=>?_) (fun k vs o1 f2 h2=>?_)
 ·refine Ze (ZgQ ..) (Ze (if_pos (Z6 hi)) ?_)
  refine Zc (w63 hb hl o1 ho1 f1) fun r ⟨a,o2,f2,hr,ha⟩=>?_
  subst hr
  refine Zc (w63 hb hl o2 ha.le f2) fun r ⟨b,o3,f3,hr,hb'⟩=>?_
  subst hr
  refine Zk (YK (by simp;omega) (by omega)) ?_
  dsimp only
  rw [Z1 hi (by omega)]
  exact ih ⟨a,b⟩ o3 f3 (WR.map (c':=Zas) (G':=fun x=>N63 x.region∧N63 x.to) (T':=fun x=>N63 x.region∧N63 x.to) (fun p=>(⟨p.1,p.2⟩:Zff)) (fun m=>(m.region,m.to)) (ha.seq hb') (fun h=>h) fun w hw=>⟨hw,rfl,rfl⟩)
 ·refine Ze (ZgQ ..) (Ze (if_neg (Z5 (Nat.le_refl _))) (Zg ⟨vs,o1,f2,rfl,h.list (fun w _=>by have:=Zaa w.region;simp only [Zas,List.length_append];omega) h2⟩))
theorem ZDl {bs:List Int} (hb:Zv bs) (hl:bs.length≤1000000) (off:Nat) (ho:off≤bs.length) (f:Bool):Ret (fun r=>∃ (v:Bool) (o:Nat) (f':Bool),r=(v,Zd bs,(o:Int),f')∧WR bB (fun _=>True) (fun _=>True) bs off f v o f') (Zzy (Zd bs) off f):=by
 rw [ZtR]
 refine Zc (w63 hb hl off ho f) fun r ⟨v,o,f1,hr,h⟩=>?_
 subst hr
 have num:∀ (w:Bool) rest,f=false→bs.drop off=bB w++rest→v=(if w=true then 1 else 0)∧bs.drop o=rest∧f1=false:=by
  intro w rest hf hrem
  cases w
  ·exact h.post 0 rest hf ⟨by decide,by decide⟩ hrem
  ·exact h.post 1 rest hf ⟨by decide,by decide⟩ hrem
 refine Zl (fun h1=>Zg ⟨_,o,true,rfl,⟨h.le,trivial,fun w rest hf _ hrem=>?_⟩⟩) fun h1=>Zg ⟨_,o,f1,rfl,⟨h.le,trivial,fun w rest hf _ hrem=>?_⟩⟩
 ·simp only [CQ] at h1
  obtain ⟨e,_,_⟩:=num w rest hf hrem
  exfalso;split at e<;>omega
 ·obtain ⟨e,r,b⟩:=num w rest hf hrem
  refine ⟨?_,r,b⟩
  rw [e]
  cases w<;>rfl
end Go.Proofs.YtjldbnbdcmfbmaaGreat
end

section
namespace Go.Proofs.YtjldbnbdcmfbmaaGreat
open Go Go.AM
set_option linter.unusedSimpArgs false
set_option linter.unusedVariables false
set_option maxRecDepth 100000
theorem Zow {bs:List Int} (hb:Zv bs) (o n:Nat):Zv ((bs.drop o).take n):=fun z hz=>hb z (List.mem_of_mem_drop (List.mem_of_mem_take hz))
theorem Zni (bs:List Int) (o n:Nat):List.drop o (List.take (o+n) (Zd bs))=Zd ((bs.drop o).take n):=by
 simp only [Zd,← List.map_take,← List.map_drop]
 congr 1
 rw [List.drop_take]
 congr 1;omega
def TN (n:J4):Prop:=n.path.length≤8
theorem Zqd {bs:List Int} (hb:Zv bs) {n:J4} (h:ZoW bs=some n):n.path.length≤8:=(WM (Zo1 hb h).1).2.2.1
def ZBX (n:J4) (bs:List Int) (o:Nat) (f:Bool):=(n.id.core,n.id.op,n.id.part,Zb n.path,n.cap.kind,n.cap.base,n.cap.bits,n.cap.rights,n.cap.width,n.cap.level,n.cap.device,Zd bs,(o:Int),f)
theorem ZyV {bs:List Int} (hb:Zv bs) (hl:bs.length≤1000000) (off:Nat) (ho:off≤bs.length) (f:Bool):Ret (fun r=>∃ (v:J4) (o:Nat) (f':Bool),r=ZBX v bs o f'∧WR Kl KN TN bs off f v o f') (ZuW (Zd bs) off f):=by
 rw [ZrP]
 refine Zc (ZoX hb hl off ho f) fun r ⟨n,o,f1,hr,h⟩=>?_
 subst hr
 have hle:=h.le
 have htot:=h.tot
 have len:∀ (w:J4) rest,f=false→bs.drop off=Kl w++rest→n=(Y9 w).length∧bs.drop o=Y9 w++rest∧f1=false:=fun w rest hf hrem=>by
  rw [Kl,List.append_assoc] at hrem
  have:=ZaM w
  exact h.post _ _ hf (by omega) hrem (by rw [List.length_append];omega)
 have hn0:ZR ZS=false:=by decide
 have tn0:TN ZS:=by simp [TN,ZS]
 refine Zl (fun h1=>Zg ⟨ZS,o,f1,rfl,⟨hle,tn0,fun w rest hf hG hrem=>?_⟩⟩) fun h1=>?_
 ·obtain ⟨_,_,b⟩:=len w rest hf hrem
  have h1':f1=true:=h1
  rw [b] at h1';cases h1'
 refine Zl (fun h2=>Zg ⟨ZS,o,f1,rfl,⟨hle,tn0,fun w rest hf hG hrem=>?_⟩⟩) fun h2=>?_
 ·simp only [CQ] at h2
  obtain ⟨e,r,b⟩:=len w rest hf hrem
  have hz:(Y9 w).length=0:=by omega
  rcases hG with hw | hw
  ·rw [Y9,if_pos hw] at hz
   exact absurd hz (ZfE w)
  ·rw [List.eq_nil_of_length_eq_zero hz] at r
   exact ⟨hw.symm,r,b⟩
 simp only [CQ] at h2
 dsimp only
 have ea:iop .add .i64 (o:Int) (n:Int)=((o+n:Nat):Int):=by rw [JH (by omega) (by omega)];omega
 rw [ea]
 refine Zk (by omega) (Zk (by omega) (Zk (by rw [ZV];omega) ?_))
 rw [Int.toNat_natCast,Int.toNat_natCast,Zni]
 have hbd:=Zow hb o n
 refine Jc (ZDD hbd (by simp;omega)) ?_
 have good:∀ (w:J4) rest,f=false→KN w→bs.drop off=Kl w++rest→ZoW ((bs.drop o).take n)=some w∧bs.drop (o+n)=rest∧f1=false:=fun w rest hf hG hrem=>by
  obtain ⟨e,r,b⟩:=len w rest hf hrem
  rcases hG with hw | hw
  ·refine ⟨?_,ZcN r e,b⟩
   rw [r,e,List.take_left,Y9,if_pos hw]
   exact Zf8 hw
  ·rw [hw,Y9,if_neg (by rw [hn0];decide)] at e
   exact absurd (by rw [e];rfl) h2
 cases hd:ZoW ((bs.drop o).take n) with
 | none =>
  refine Ze (if_pos (by simp [Zbu,cop])) (Zg ⟨ZS,o+n,true,rfl,⟨by omega,tn0,fun w rest hf hG hrem=>?_⟩⟩)
  obtain ⟨e,_,_⟩:=good w rest hf hG hrem
  rw [hd] at e;cases e
 | some x =>
  refine Ze (if_neg (by simp [Zbu,cop])) (Zg ⟨x,o+n,f1,rfl,⟨by omega,Zqd hbd hd,fun w rest hf hG hrem=>?_⟩⟩)
  obtain ⟨e,r,b⟩:=good w rest hf hG hrem
  rw [hd] at e
  exact ⟨Option.some.inj e,r,b⟩
def TC (c:Call):Prop:=∀ z∈Yt c,Rng z
def Zz2 (c:Call) (bs:List Int) (o:Nat) (f:Bool):=(c.kind,c.slot,c.dest,c.core,c.mask,c.object,c.bits,c.level,c.offset,c.count,c.index,c.addr,Zd bs,(o:Int),f)
theorem Zot (c:Call):TC c↔(Rng c.kind∧Rng c.slot∧Rng c.dest∧Rng c.core∧Rng c.mask∧Rng c.object∧Rng c.bits∧Rng c.level∧Rng c.offset∧Rng c.count∧Rng c.index∧Rng c.addr):=by
 simp [TC,Yt]
theorem ZEY {bs:List Int} (hb:Zv bs) (hl:bs.length≤1000000) (off:Nat) (ho:off≤bs.length) (f:Bool):Ret (fun r=>∃ (v:Call) (o:Nat) (f':Bool),r=Zz2 v bs o f'∧WR ZjN TC TC bs off f v o f') (ZCD (Zd bs) off f):=by
 rw [ZsW]
 refine Zc (Zmp hb hl off ho f) fun r ⟨v0,o0,f0,hr,h0⟩=>?_
 subst hr
 refine Zc (Zmp hb hl o0 h0.le f0) fun r ⟨v1,o1,f1,hr,h1⟩=>?_
 subst hr
 refine Zc (Zmp hb hl o1 h1.le f1) fun r ⟨v2,o2,f2,hr,h2⟩=>?_
 subst hr
 refine Zc (Zmp hb hl o2 h2.le f2) fun r ⟨v3,o3,f3,hr,h3⟩=>?_
 subst hr
 refine Zc (Zmp hb hl o3 h3.le f3) fun r ⟨v4,o4,f4,hr,h4⟩=>?_
 subst hr
 refine Zc (Zmp hb hl o4 h4.le f4) fun r ⟨v5,o5,f5,hr,h5⟩=>?_
 subst hr
 refine Zc (Zmp hb hl o5 h5.le f5) fun r ⟨v6,o6,f6,hr,h6⟩=>?_
 subst hr
 refine Zc (Zmp hb hl o6 h6.le f6) fun r ⟨v7,o7,f7,hr,h7⟩=>?_
 subst hr
 refine Zc (Zmp hb hl o7 h7.le f7) fun r ⟨v8,o8,f8,hr,h8⟩=>?_
 subst hr
 refine Zc (Zmp hb hl o8 h8.le f8) fun r ⟨v9,o9,f9,hr,h9⟩=>?_
 subst hr
 refine Zc (Zmp hb hl o9 h9.le f9) fun r ⟨v10,o10,f10,hr,h10⟩=>?_
 subst hr
 refine Zc (Zmp hb hl o10 h10.le f10) fun r ⟨v11,o11,f11,hr,h11⟩=>?_
 subst hr
 exact Zg ⟨⟨v0,v1,v2,v3,v4,v5,v6,v7,v8,v9,v10,v11⟩,o11,f11,rfl,(h0.seq (h1.seq (h2.seq (h3.seq (h4.seq (h5.seq (h6.seq (h7.seq (h8.seq (h9.seq (h10.seq h11))))))))))).map
  (fun p=>(⟨p.1,p.2.1,p.2.2.1,p.2.2.2.1,p.2.2.2.2.1,p.2.2.2.2.2.1,p.2.2.2.2.2.2.1,p.2.2.2.2.2.2.2.1,p.2.2.2.2.2.2.2.2.1,p.2.2.2.2.2.2.2.2.2.1,p.2.2.2.2.2.2.2.2.2.2.1,p.2.2.2.2.2.2.2.2.2.2.2⟩:Call))
  (fun c=>(c.kind,c.slot,c.dest,c.core,c.mask,c.object,c.bits,c.level,c.offset,c.count,c.index,c.addr)) (fun h=>(Zot _).2 h) fun w hw=>⟨(Zot w).1 hw,by simp [ZjN,Yt],rfl⟩⟩
def TR (r:Req):Prop:=TC r.call∧TN r.src
def ZDt (r:Req) (bs:List Int) (o:Nat) (f:Bool):=(r.id.core,r.id.op,r.id.part,r.call.kind,r.call.slot,r.call.dest,r.call.core,r.call.mask,r.call.object,r.call.bits,r.call.level,r.call.offset,r.call.count,r.call.index,r.call.addr,r.region,r.width,r.src.id.core,r.src.id.op,r.src.id.part,Zb r.src.path,r.src.cap.kind,r.src.cap.base,r.src.cap.bits,r.src.cap.rights,r.src.cap.width,r.src.cap.level,r.src.cap.device,Zd bs,(o:Int),f)
theorem ZDf {bs:List Int} (hb:Zv bs) (hl:bs.length≤1000000) (off:Nat) (ho:off≤bs.length) (f:Bool):Ret (fun r=>∃ (v:Req) (o:Nat) (f':Bool),r=ZDt v bs o f'∧WR ZcJ Zrw TR bs off f v o f') (ZyI (Zd bs) off f):=by
 rw [Zuw]
 refine Zc (Zw8 hb hl off ho f) fun r ⟨i,o1,f1,hr,h1⟩=>?_
 subst hr
 refine Zc (ZEY hb hl o1 h1.le f1) fun r ⟨c,o2,f2,hr,h2⟩=>?_
 subst hr
 refine Zc (w63 hb hl o2 h2.le f2) fun r ⟨a,o3,f3,hr,h3⟩=>?_
 subst hr
 refine Zc (w63 hb hl o3 h3.le f3) fun r ⟨b,o4,f4,hr,h4⟩=>?_
 subst hr
 refine Zc (ZyV hb hl o4 h4.le f4) fun r ⟨n,o5,f5,hr,h5⟩=>?_
 subst hr
 exact Zg ⟨⟨i,c,a,b,n⟩,o5,f5,rfl,(h1.seq (h2.seq (h3.seq (h4.seq h5)))).map (fun p=>(⟨p.1,p.2.1,p.2.2.1,p.2.2.2.1,p.2.2.2.2⟩:Req)) (fun r=>(r.id,r.call,r.region,r.width,r.src)) (fun h=>⟨h.2.1,h.2.2.2.2⟩)
  fun w hw=>⟨⟨hw.good.id,hw.good.call,⟨hw.good.reg0,hw.good.reg1⟩,⟨hw.good.wid0,hw.good.wid1⟩,hw.src⟩,by simp [ZcJ],rfl⟩⟩
theorem ZEB {bs:List Int} (hb:Zv bs) (hl:bs.length≤1000000) (off:Nat) (ho:off≤bs.length) (f:Bool):Ret (fun r=>∃ (v:List J4) (o:Nat) (f':Bool),r=(v.map ZT,Zd bs,(o:Int),f')∧WR (ZE Kl) (GL KN) (TL TN bs.length) bs off f v o f') (ZBd (Zd bs) off f):=by
 rw [Zub]
 refine Zc (ZoX hb hl off ho f) fun r ⟨n,o,f1,hr,h⟩=>?_
 subst hr
 have hnb:=h.tot
 refine ZfK (n:=n) (f:=f1) (c:=Kl) (G:=KN) (T:=TN) (cell:=ZT) hl (F:=fun k b o f acc i=>Zk6 k b o f acc (n:Int) i) h.le (by omega) (fun k o1 f1 acc i ho1 hi hacc ih=>?_) (fun k vs o1 f2 h2=>?_)
 ·refine Ze (Zhr ..) (Ze (if_pos (Z6 hi)) ?_)
  refine Zc (ZyV hb hl o1 ho1 f1) fun r ⟨v,o2,f2,hr,hv⟩=>?_
  subst hr
  refine Zk (YK (by simp;omega) (by omega)) ?_
  rw [Z1 hi (by omega)]
  exact ih v o2 f2 hv
 ·refine Ze (Zhr ..) (Ze (if_neg (Z5 (Nat.le_refl _))) (Zg ⟨vs,o1,f2,rfl,h.list (fun w _=>by have:=Zaa ((Y9 w).length:Int);simp only [Kl,List.length_append];omega) h2⟩))
def TV (n:Nat) (v:Vu):Prop:=v.members.length≤n∧v.owners.length≤n
theorem ZB7 {bs:List Int} (hb:Zv bs) (hl:bs.length≤1000000) (off:Nat) (ho:off≤bs.length) (f:Bool):Ret (fun r=>∃ (v:Vu) (o:Nat) (f':Bool),r=(v.number,Za v.members,Za v.owners,Zd bs,(o:Int),f')∧WR Zaj Vu.Good (TV bs.length) bs off f v o f') (Zyo (Zd bs) off f):=by
 rw [ZuC]
 refine Zc (w63 hb hl off ho f) fun r ⟨i,o1,f1,hr,h1⟩=>?_
 subst hr
 refine Zc (ZAB hb hl o1 h1.le f1) fun r ⟨c,o2,f2,hr,h2⟩=>?_
 subst hr
 refine Zc (ZAB hb hl o2 h2.le f2) fun r ⟨a,o3,f3,hr,h3⟩=>?_
 subst hr
 exact Zg ⟨⟨i,c,a⟩,o3,f3,rfl,(h1.seq (h2.seq h3)).map (fun p=>(⟨p.1,p.2.1,p.2.2⟩:Vu)) (fun r=>(r.number,r.members,r.owners)) (fun h=>⟨h.2.1.1,h.2.2.1⟩)
  fun w hw=>⟨⟨hw.num,⟨J5 hw.members,hw.member⟩,J5 hw.owners,hw.owner⟩,by simp [Zaj],rfl⟩⟩
structure TS (n:Nat) (s:Jv):Prop where
 slots:s.slots.length≤n
 slot:∀ x∈s.slots,TN x.node
 pending:s.pending.length≤n
 req:∀ x∈s.pending,TR x
 marks:s.marks.length≤n
 answers:s.answers.length≤n
 entries:s.entries.length≤n
 entry:∀ x∈s.entries,TN x.node
 commits:s.commits.length≤n
def ZxK (s:Jv) (bs:List Int) (o:Nat) (f:Bool):=(s.slots.map Zh,s.pending.map Zt,s.marks.map Zi,s.answers.map Zy,s.entries.map Zf,Zb s.commits,Zd bs,(o:Int),f)
def GSl (x:YS):Prop:=KN x.node∧N63 x.op∧x.lock.Small
def GMk (x:ZbD):Prop:=N63 x.region∧x.op.Small
def GAn (x:Ans):Prop:=N63 x.op∧N63 x.err
def GEn (x:ZD):Prop:=N63 x.core∧N63 x.slot∧KN x.node
def StP (bs:List Int) (off:Nat) (f:Bool) (r:LL×LL×LL×LL×LL×LL×LL×Int×Bool):Prop:=∃ (v:Jv) (o:Nat) (f':Bool),r=ZxK v bs o f'∧WR KI ZcC (TS bs.length) bs off f v o f'
theorem ZrG {bs:List Int} {off o1 o2 o3 o4 o5 o6:Nat} {f f1 f2 f3 f4 f5 f6:Bool} {sl:List YS} {pe:List Req} {ma:List ZbD} {an:List Ans} {en:List ZD} {co:List Id}
  (h1:WR (ZE Vc) (GL GSl) (TL (fun x=>TN x.node) bs.length) bs off f sl o1 f1) (h2:WR (ZE ZcJ) (GL Zrw) (TL TR bs.length) bs o1 f1 pe o2 f2) (h3:WR (ZE K7) (GL GMk) (TL (fun _=>True) bs.length) bs o2 f2 ma o3 f3)
  (h4:WR (ZE ZdN) (GL GAn) (TL (fun _=>True) bs.length) bs o3 f3 an o4 f4) (h5:WR (ZE Zcn) (GL GEn) (TL (fun x=>TN x.node) bs.length) bs o4 f4 en o5 f5) (h6:WR (ZE idB) (GL Id.Small) (TL T3 bs.length) bs o5 f5 co o6 f6) :
  WR KI ZcC (TS bs.length) bs off f (⟨sl,pe,ma,an,en,co⟩:Jv) o6 f6:=
 WR.map (c':=KI) (G':=ZcC) (T':=TS bs.length) (fun p=>(⟨p.1,p.2.1,p.2.2.1,p.2.2.2.1,p.2.2.2.2.1,p.2.2.2.2.2⟩:Jv)) (fun s=>(s.slots,s.pending,s.marks,s.answers,s.entries,s.commits)) (h1.seq (h2.seq (h3.seq (h4.seq (h5.seq h6)))))
  (fun ⟨t1,t2,t3,t4,t5,t6⟩=>⟨t1.1,t1.2,t2.1,t2.2,t3.1,t4.1,t5.1,t5.2,t6.1⟩)
  fun w hw=>⟨⟨⟨J5 hw.good.slots,fun x hx=>⟨hw.slot x hx,(hw.good.slot x hx).2⟩⟩,⟨J5 hw.good.pending,fun x hx=>⟨hw.good.req x hx,hw.req x hx⟩⟩,⟨J5 hw.good.marks,hw.good.mark⟩,⟨J5 hw.good.answers,hw.good.ans⟩,⟨J5 hw.good.entries,fun x hx=>⟨(hw.good.entry x hx).1,(hw.good.entry x hx).2.1,hw.entry x hx⟩⟩,J5 hw.good.commits,hw.good.commit⟩,rfl,rfl⟩
theorem Zh6 (n:J4):1≤(Kl n).length:=by have:=Zaa ((Y9 n).length:Int);simp only [Kl,List.length_append];omega
theorem Zxu {bs:List Int} (hb:Zv bs) (hl:bs.length≤1000000) (off:Nat) (f:Bool) (y3 y4 y5 y6 y7 y8:LL) (sl:List YS) (p0:Nat) (q0:Bool) (e0:WR (ZE Vc) (GL GSl) (TL (fun x=>TN x.node) bs.length) bs off f sl p0 q0) (pe:List Req) (p1:Nat) (q1:Bool) (e1:WR (ZE ZcJ) (GL Zrw) (TL TR bs.length) bs p0 q0 pe p1 q1) (ma:List ZbD) (p2:Nat) (q2:Bool) (e2:WR (ZE K7) (GL GMk) (TL (fun _=>True) bs.length) bs p1 q1 ma p2 q2) (an:List Ans) (p3:Nat) (q3:Bool) (e3:WR (ZE ZdN) (GL GAn) (TL (fun _=>True) bs.length) bs p2 q2 an p3 q3) {n o:Nat} {f1:Bool} (h:CR bs p3 q3 n o f1):Ret (StP bs off f) (ZhE ZB (Zd bs) (o:Int) f1 y3 y4 y5 y6 y7 y8 (sl.map Zh) (pe.map Zt) (ma.map Zi) (an.map Zy) E0 E0 (n:Int) 0):=by
 have hnb:=h.tot
 refine ZfK (n:=n) (f:=f1) (c:=Zcn) (G:=GEn) (T:=(fun x=>TN x.node)) (cell:=Zf) hl (F:=fun k b o f acc i=>ZhE k b o f y3 y4 y5 y6 y7 y8 (sl.map Zh) (pe.map Zt) (ma.map Zi) (an.map Zy) acc E0 (n:Int) i) h.le (by omega) (fun k o1 f1 acc i ho1 hi hacc ih=>?_) (fun k vs o1 f2 h2=>?_)
 ·refine Ze (ZgC ..) (Ze (if_pos (Z6 hi)) ?_)
  refine Zc (w63 hb hl o1 ho1 f1) fun r ⟨a,o2,f2,hr,ha⟩=>?_
  subst hr
  refine Zc (w63 hb hl o2 ha.le f2) fun r ⟨b,o3,f3,hr,hb2⟩=>?_
  subst hr
  refine Zc (ZyV hb hl o3 hb2.le f3) fun r ⟨c,o4,f4,hr,hc⟩=>?_
  subst hr
  refine Zk (YK (by simp;omega) (by omega)) ?_
  rw [Z1 hi (by omega)]
  exact ih ⟨a,b,c⟩ o4 f4 (WR.map (c':=Zcn) (G':=GEn) (T':=fun x=>TN x.node) (fun p=>(⟨p.1,p.2.1,p.2.2⟩:ZD)) (fun s=>(s.core,s.slot,s.node)) (ha.seq (hb2.seq hc)) (fun h=>h.2.2) fun w hw=>⟨hw,by simp [Zcn],rfl⟩)
 ·refine Ze (ZgC ..) (Ze (if_neg (Z5 (Nat.le_refl _))) ?_)
  have hw:=h.list (fun w _=>by have:=Zaa w.core;simp only [Zcn,List.length_append];omega) h2
  refine Zc (ZCX hb hl o1 hw.le f2) fun r ⟨co,o2,f3,hr,h3⟩=>?_
  subst hr
  exact Zg ⟨⟨sl,pe,ma,an,vs,co⟩,o2,f3,rfl,ZrG e0 e1 e2 e3 hw h3⟩
theorem Zvh {bs:List Int} (hb:Zv bs) (hl:bs.length≤1000000) (off:Nat) (f:Bool) (y3 y4 y5 y6 y7 y8:LL) (sl:List YS) (p0:Nat) (q0:Bool) (e0:WR (ZE Vc) (GL GSl) (TL (fun x=>TN x.node) bs.length) bs off f sl p0 q0) (pe:List Req) (p1:Nat) (q1:Bool) (e1:WR (ZE ZcJ) (GL Zrw) (TL TR bs.length) bs p0 q0 pe p1 q1) (ma:List ZbD) (p2:Nat) (q2:Bool) (e2:WR (ZE K7) (GL GMk) (TL (fun _=>True) bs.length) bs p1 q1 ma p2 q2) {n o:Nat} {f1:Bool} (h:CR bs p2 q2 n o f1):Ret (StP bs off f) (ZgR ZB (Zd bs) (o:Int) f1 y3 y4 y5 y6 y7 y8 (sl.map Zh) (pe.map Zt) (ma.map Zi) E0 E0 E0 (n:Int) 0):=by
 have hnb:=h.tot
 refine ZfK (n:=n) (f:=f1) (c:=ZdN) (G:=GAn) (T:=(fun _=>True)) (cell:=Zy) hl (F:=fun k b o f acc i=>ZgR k b o f y3 y4 y5 y6 y7 y8 (sl.map Zh) (pe.map Zt) (ma.map Zi) acc E0 E0 (n:Int) i) h.le (by omega) (fun k o1 f1 acc i ho1 hi hacc ih=>?_) (fun k vs o1 f2 h2=>?_)
 ·refine Ze (Zhv ..) (Ze (if_pos (Z6 hi)) ?_)
  refine Zc (w63 hb hl o1 ho1 f1) fun r ⟨a,o2,f2,hr,ha⟩=>?_
  subst hr
  refine Zc (w63 hb hl o2 ha.le f2) fun r ⟨b,o3,f3,hr,hb2⟩=>?_
  subst hr
  refine Zk (YK (by simp;omega) (by omega)) ?_
  rw [Z1 hi (by omega)]
  exact ih ⟨a,b⟩ o3 f3 (WR.map (c':=ZdN) (G':=GAn) (T':=fun _=>True) (fun p=>(⟨p.1,p.2⟩:Ans)) (fun s=>(s.op,s.err)) (ha.seq hb2) (fun _=>trivial) fun w hw=>⟨hw,rfl,rfl⟩)
 ·refine Ze (Zhv ..) (Ze (if_neg (Z5 (Nat.le_refl _))) ?_)
  have hw:=h.list (fun w _=>by have:=Zaa w.op;simp only [ZdN,List.length_append];omega) h2
  refine Zc (ZoX hb hl o1 hw.le f2) fun r ⟨n2,o2,f3,hr,h3⟩=>?_
  subst hr
  exact Zxu hb hl off f y3 y4 y5 y6 y7 y8 sl p0 q0 e0 pe p1 q1 e1 ma p2 q2 e2 vs o1 f2 hw h3
theorem ZwW {bs:List Int} (hb:Zv bs) (hl:bs.length≤1000000) (off:Nat) (f:Bool) (y3 y4 y5 y6 y7 y8:LL) (sl:List YS) (p0:Nat) (q0:Bool) (e0:WR (ZE Vc) (GL GSl) (TL (fun x=>TN x.node) bs.length) bs off f sl p0 q0) (pe:List Req) (p1:Nat) (q1:Bool) (e1:WR (ZE ZcJ) (GL Zrw) (TL TR bs.length) bs p0 q0 pe p1 q1) {n o:Nat} {f1:Bool} (h:CR bs p1 q1 n o f1):Ret (StP bs off f) (Zg4 ZB (Zd bs) (o:Int) f1 y3 y4 y5 y6 y7 y8 (sl.map Zh) (pe.map Zt) E0 E0 E0 E0 (n:Int) 0):=by
 have hnb:=h.tot
 refine ZfK (n:=n) (f:=f1) (c:=K7) (G:=GMk) (T:=(fun _=>True)) (cell:=Zi) hl (F:=fun k b o f acc i=>Zg4 k b o f y3 y4 y5 y6 y7 y8 (sl.map Zh) (pe.map Zt) acc E0 E0 E0 (n:Int) i) h.le (by omega) (fun k o1 f1 acc i ho1 hi hacc ih=>?_) (fun k vs o1 f2 h2=>?_)
 ·refine Ze (ZhR ..) (Ze (if_pos (Z6 hi)) ?_)
  refine Zc (w63 hb hl o1 ho1 f1) fun r ⟨a,o2,f2,hr,ha⟩=>?_
  subst hr
  refine Zc (Zw8 hb hl o2 ha.le f2) fun r ⟨b,o3,f3,hr,hb2⟩=>?_
  subst hr
  refine Zk (YK (by simp;omega) (by omega)) ?_
  rw [Z1 hi (by omega)]
  exact ih ⟨a,b⟩ o3 f3 (WR.map (c':=K7) (G':=GMk) (T':=fun _=>True) (fun p=>(⟨p.1,p.2⟩:ZbD)) (fun s=>(s.region,s.op)) (ha.seq hb2) (fun _=>trivial) fun w hw=>⟨hw,rfl,rfl⟩)
 ·refine Ze (ZhR ..) (Ze (if_neg (Z5 (Nat.le_refl _))) ?_)
  have hw:=h.list (fun w _=>by have:=Zaa w.region;simp only [K7,List.length_append];omega) h2
  refine Zc (ZoX hb hl o1 hw.le f2) fun r ⟨n2,o2,f3,hr,h3⟩=>?_
  subst hr
  exact Zvh hb hl off f y3 y4 y5 y6 y7 y8 sl p0 q0 e0 pe p1 q1 e1 vs o1 f2 hw h3
theorem Zxm {bs:List Int} (hb:Zv bs) (hl:bs.length≤1000000) (off:Nat) (f:Bool) (y3 y4 y5 y6 y7 y8:LL) (sl:List YS) (p0:Nat) (q0:Bool) (e0:WR (ZE Vc) (GL GSl) (TL (fun x=>TN x.node) bs.length) bs off f sl p0 q0) {n o:Nat} {f1:Bool} (h:CR bs p0 q0 n o f1):Ret (StP bs off f) (ZhZ ZB (Zd bs) (o:Int) f1 y3 y4 y5 y6 y7 y8 (sl.map Zh) E0 E0 E0 E0 E0 (n:Int) 0):=by
 have hnb:=h.tot
 refine ZfK (n:=n) (f:=f1) (c:=ZcJ) (G:=Zrw) (T:=TR) (cell:=Zt) hl (F:=fun k b o f acc i=>ZhZ k b o f y3 y4 y5 y6 y7 y8 (sl.map Zh) acc E0 E0 E0 E0 (n:Int) i) h.le (by omega) (fun k o1 f1 acc i ho1 hi hacc ih=>?_) (fun k vs o1 f2 h2=>?_)
 ·refine Ze (ZgG ..) (Ze (if_pos (Z6 hi)) ?_)
  refine Zc (ZDf hb hl o1 ho1 f1) fun r ⟨a,o2,f2,hr,ha⟩=>?_
  subst hr
  refine Zk (YK (by simp;omega) (by omega)) ?_
  rw [Z1 hi (by omega)]
  exact ih a o2 f2 ha
 ·refine Ze (ZgG ..) (Ze (if_neg (Z5 (Nat.le_refl _))) ?_)
  have hw:=h.list (fun w _=>by have:=Zh6 w.src;simp only [ZcJ,List.length_append];omega) h2
  refine Zc (ZoX hb hl o1 hw.le f2) fun r ⟨n2,o2,f3,hr,h3⟩=>?_
  subst hr
  exact ZwW hb hl off f y3 y4 y5 y6 y7 y8 sl p0 q0 e0 vs o1 f2 hw h3
theorem Zvf {bs:List Int} (hb:Zv bs) (hl:bs.length≤1000000) (off:Nat) (f:Bool) (y3 y4 y5 y6 y7 y8:LL) {n o:Nat} {f1:Bool} (h:CR bs off f n o f1):Ret (StP bs off f) (ZgP ZB (Zd bs) (o:Int) f1 y3 y4 y5 y6 y7 y8 E0 E0 E0 E0 E0 E0 (n:Int) 0):=by
 have hnb:=h.tot
 refine ZfK (n:=n) (f:=f1) (c:=Vc) (G:=GSl) (T:=(fun x=>TN x.node)) (cell:=Zh) hl (F:=fun k b o f acc i=>ZgP k b o f y3 y4 y5 y6 y7 y8 acc E0 E0 E0 E0 E0 (n:Int) i) h.le (by omega) (fun k o1 f1 acc i ho1 hi hacc ih=>?_) (fun k vs o1 f2 h2=>?_)
 ·refine Ze (ZhL ..) (Ze (if_pos (Z6 hi)) ?_)
  refine Zc (ZyV hb hl o1 ho1 f1) fun r ⟨a,o2,f2,hr,ha⟩=>?_
  subst hr
  refine Zc (w63 hb hl o2 ha.le f2) fun r ⟨b,o3,f3,hr,hb2⟩=>?_
  subst hr
  refine Zc (Zw8 hb hl o3 hb2.le f3) fun r ⟨c,o4,f4,hr,hc⟩=>?_
  subst hr
  refine Zk (YK (by simp;omega) (by omega)) ?_
  rw [Z1 hi (by omega)]
  exact ih ⟨a,b,c⟩ o4 f4 (WR.map (c':=Vc) (G':=GSl) (T':=fun x=>TN x.node) (fun p=>(⟨p.1,p.2.1,p.2.2⟩:YS)) (fun s=>(s.node,s.op,s.lock)) (ha.seq (hb2.seq hc)) (fun h=>h.1) fun w hw=>⟨hw,by simp [Vc],rfl⟩)
 ·refine Ze (ZhL ..) (Ze (if_neg (Z5 (Nat.le_refl _))) ?_)
  have hw:=h.list (fun w _=>by have:=Zh6 w.node;simp only [Vc,List.length_append];omega) h2
  refine Zc (ZoX hb hl o1 hw.le f2) fun r ⟨n2,o2,f3,hr,h3⟩=>?_
  subst hr
  exact Zxm hb hl off f y3 y4 y5 y6 y7 y8  vs o1 f2 hw h3
theorem ZBm {bs:List Int} (hb:Zv bs) (hl:bs.length≤1000000) (off:Nat) (ho:off≤bs.length) (f:Bool):Ret (StP bs off f) (Zxx (Zd bs) off f):=by
 rw [ZtT]
 refine Zc (ZoX hb hl off ho f) fun r ⟨n,o,f1,hr,h⟩=>?_
 subst hr
 exact Zvf hb hl off f _ _ _ _ _ _ h
structure TP (n:Nat) (r:Jl):Prop where
 view:TV n r.view
 state:TS n r.state
 next:TV n r.next
 proposal:TS n r.proposal
def ZER (r:Jl) (bs:List Int) (o:Nat) (f:Bool):=(r.core,r.view.number,Za r.view.members,Za r.view.owners,r.state.slots.map Zh,r.state.pending.map Zt,r.state.marks.map Zi,r.state.answers.map Zy,r.state.entries.map Zf,Zb r.state.commits,r.ready,r.next.number,Za r.next.members,Za r.next.owners,r.proposal.slots.map Zh,r.proposal.pending.map Zt,r.proposal.marks.map Zi,r.proposal.answers.map Zy,r.proposal.entries.map Zf,Zb r.proposal.commits,Zd bs,(o:Int),f)
theorem ZEt {bs:List Int} (hb:Zv bs) (hl:bs.length≤1000000) (off:Nat) (ho:off≤bs.length) (f:Bool):Ret (fun r=>∃ (v:Jl) (o:Nat) (f':Bool),r=ZER v bs o f'∧WR Zml ZiV (TP bs.length) bs off f v o f') (ZzP (Zd bs) off f):=by
 rw [ZtZ]
 refine Zc (w63 hb hl off ho f) fun r ⟨c,o1,f1,hr,h1⟩=>?_
 subst hr
 refine Zc (ZB7 hb hl o1 h1.le f1) fun r ⟨v,o2,f2,hr,h2⟩=>?_
 subst hr
 refine Zc (ZBm hb hl o2 h2.le f2) fun r ⟨s,o3,f3,hr,h3⟩=>?_
 subst hr
 refine Zc (ZDl hb hl o3 h3.le f3) fun r ⟨b,o4,f4,hr,h4⟩=>?_
 subst hr
 refine Zc (ZB7 hb hl o4 h4.le f4) fun r ⟨v2,o5,f5,hr,h5⟩=>?_
 subst hr
 refine Zc (ZBm hb hl o5 h5.le f5) fun r ⟨s2,o6,f6,hr,h6⟩=>?_
 subst hr
 exact Zg ⟨⟨c,v,s,b,v2,s2⟩,o6,f6,rfl,WR.map (c':=Zml) (G':=ZiV) (T':=TP bs.length) (fun p=>(⟨p.1,p.2.1,p.2.2.1,p.2.2.2.1,p.2.2.2.2.1,p.2.2.2.2.2⟩:Jl)) (fun r=>(r.core,r.view,r.state,r.ready,r.next,r.proposal)) (h1.seq (h2.seq (h3.seq (h4.seq (h5.seq h6)))))
  (fun ⟨_,t2,t3,_,t5,t6⟩=>⟨t2,t3,t5,t6⟩) fun w hw=>⟨⟨hw.core,hw.view,hw.state,trivial,hw.next,hw.proposal⟩,rfl,rfl⟩⟩
end Go.Proofs.YtjldbnbdcmfbmaaGreat
end

section
namespace Go.Proofs.YtjldbnbdcmfbmaaGreat
open Go Go.AM
set_option linter.unusedSimpArgs false
set_option linter.unusedVariables false
set_option maxRecDepth 100000
structure TM (n:Nat) (m:Msg):Prop where
 req:TR m.req
 nodes:TL TN n m.nodes
 ids:m.ids.length≤n
 cores:m.cores.length≤n
 moves:m.moves.length≤n
 next:TV n m.next
 state:TS n m.state
 report:TP n m.report
def Zwo (m:Msg) (bs:List Int) (o:Nat) (f:Bool):Qt1:=(Zd bs,(o:Int),f,m.kind,m.view,m.frm,m.to,m.round,m.region,m.slot,m.op.core,m.op.op,m.op.part,m.err,m.settled,m.req.id.core,m.req.id.op,m.req.id.part,m.req.call.kind,m.req.call.slot,m.req.call.dest,m.req.call.core,m.req.call.mask,m.req.call.object,m.req.call.bits,m.req.call.level,m.req.call.offset,m.req.call.count,m.req.call.index,m.req.call.addr,m.req.region,m.req.width,m.req.src.id.core,m.req.src.id.op,m.req.src.id.part,(Zb m.req.src.path),m.req.src.cap.kind,m.req.src.cap.base,m.req.src.cap.bits,m.req.src.cap.rights,m.req.src.cap.width,m.req.src.cap.level,m.req.src.cap.device,(Zb m.ids),(m.nodes.map ZT),(Za m.cores),(m.moves.map ZZ),m.base,m.next.number,(Za m.next.members),(Za m.next.owners),(m.state.slots.map Zh),(m.state.pending.map Zt),(m.state.marks.map Zi),(m.state.answers.map Zy),(m.state.entries.map Zf),(Zb m.state.commits),m.report.core,m.report.view.number,(Za m.report.view.members),(Za m.report.view.owners),(m.report.state.slots.map Zh),(m.report.state.pending.map Zt),(m.report.state.marks.map Zi),(m.report.state.answers.map Zy),(m.report.state.entries.map Zf),(Zb m.report.state.commits),m.report.ready,m.report.next.number,(Za m.report.next.members),(Za m.report.next.owners),(m.report.proposal.slots.map Zh),(m.report.proposal.pending.map Zt),(m.report.proposal.marks.map Zi),(m.report.proposal.answers.map Zy),(m.report.proposal.entries.map Zf),(Zb m.report.proposal.commits))
structure FR (bs:List Int) (m:Msg) (off:Nat) (f:Bool) (k:Nat) (m':Msg) (o:Nat) (f':Bool):Prop where
 le:o≤bs.length
 tm:TM bs.length m'
 hd:m'.kind=m.kind∧m'.view=m.view∧m'.frm=m.frm∧m'.to=m.to
 oth:∀ g,g < 15→g≠k→eqF m' m g
 post:∀ w rest,f=false→w.Good→ZK w k=true→bs.drop off=Yf w k++rest→eqF m' w k∧bs.drop o=rest∧f'=false
theorem WR.fr {α:Type} {c:α→List Int} {G T:α→Prop} {bs:List Int} {off o:Nat} {f f':Bool} {v:α} (h:WR c G T bs off f v o f') {m m':Msg} {k:Nat} (get:Msg→α) (tm:TM bs.length m') (hd:m'.kind=m.kind∧m'.view=m.view∧m'.frm=m.frm∧m'.to=m.to) (oth:∀ g,g < 15→g≠k→eqF m' m g)
  (hG:∀ w:Msg,w.Good→ZK w k=true→G (get w)∧Yf w k=c (get w)) (he:∀ w:Msg,v=get w→eqF m' w k):FR bs m off f k m' o f':=by
 refine ⟨h.le,tm,hd,oth,fun w rest hf hg hk hrem=>?_⟩
 obtain ⟨h1,h2⟩:=hG w hg hk
 rw [h2] at hrem
 obtain ⟨e,r,b⟩:=h.post _ _ hf h1 hrem
 exact ⟨he w e,r,b⟩
def FW (bs:List Int) (m:Msg) (off:Nat) (f:Bool) (k:Nat) (r:Qt1):Prop:=∃ (m':Msg) (o:Nat) (f':Bool),r=Zwo m' bs o f'∧FR bs m off f k m' o f'
theorem ZzW {bs:List Int} (hb:Zv bs) (hl:bs.length≤1000000) (off:Nat) (ho:off≤bs.length) (f:Bool) (m:Msg) (hm:TM bs.length m):Ret (FW bs m off f 0) (g64 (Zd bs) off f m.kind m.view m.frm m.to m.round m.region m.slot m.op.core m.op.op m.op.part m.err m.settled m.req.id.core m.req.id.op m.req.id.part m.req.call.kind m.req.call.slot m.req.call.dest m.req.call.core m.req.call.mask m.req.call.object m.req.call.bits m.req.call.level m.req.call.offset m.req.call.count m.req.call.index m.req.call.addr m.req.region m.req.width m.req.src.id.core m.req.src.id.op m.req.src.id.part (Zb m.req.src.path) m.req.src.cap.kind m.req.src.cap.base m.req.src.cap.bits m.req.src.cap.rights m.req.src.cap.width m.req.src.cap.level m.req.src.cap.device (Zb m.ids) (m.nodes.map ZT) (Za m.cores) (m.moves.map ZZ) m.base m.next.number (Za m.next.members) (Za m.next.owners) (m.state.slots.map Zh) (m.state.pending.map Zt) (m.state.marks.map Zi) (m.state.answers.map Zy) (m.state.entries.map Zf) (Zb m.state.commits) m.report.core m.report.view.number (Za m.report.view.members) (Za m.report.view.owners) (m.report.state.slots.map Zh) (m.report.state.pending.map Zt) (m.report.state.marks.map Zi) (m.report.state.answers.map Zy) (m.report.state.entries.map Zf) (Zb m.report.state.commits) m.report.ready m.report.next.number (Za m.report.next.members) (Za m.report.next.owners) (m.report.proposal.slots.map Zh) (m.report.proposal.pending.map Zt) (m.report.proposal.marks.map Zi) (m.report.proposal.answers.map Zy) (m.report.proposal.entries.map Zf) (Zb m.report.proposal.commits) (((0:Nat)):Int)):=by
 rw [KM]
 refine Ze (if_pos (by kernel_rfl)) ?_
 refine Zc (w63 hb hl off ho f) fun r ⟨v,o,f',hr,h⟩=>?_
 subst hr
 exact Zg ⟨{ m with region:=v },o,f',rfl,h.fr (fun w=>w.region) ⟨hm.req,hm.nodes,hm.ids,hm.cores,hm.moves,hm.next,hm.state,hm.report⟩ ⟨rfl,rfl,rfl,rfl⟩ (fun g hg hk=>match g,hk with | 0,h=>absurd rfl h | 1,_=>rfl | 2,_=>rfl | 3,_=>rfl | 4,_=>rfl | 5,_=>rfl | 6,_=>rfl | 7,_=>rfl | 8,_=>rfl | 9,_=>rfl | 10,_=>rfl | 11,_=>rfl | 12,_=>rfl | 13,_=>rfl | 14,_=>rfl | n+15,_=>trivial) (fun w hg hk=>⟨hg.region,rfl⟩) (fun w e=>e)⟩
theorem ZCr {bs:List Int} (hb:Zv bs) (hl:bs.length≤1000000) (off:Nat) (ho:off≤bs.length) (f:Bool) (m:Msg) (hm:TM bs.length m):Ret (FW bs m off f 1) (g64 (Zd bs) off f m.kind m.view m.frm m.to m.round m.region m.slot m.op.core m.op.op m.op.part m.err m.settled m.req.id.core m.req.id.op m.req.id.part m.req.call.kind m.req.call.slot m.req.call.dest m.req.call.core m.req.call.mask m.req.call.object m.req.call.bits m.req.call.level m.req.call.offset m.req.call.count m.req.call.index m.req.call.addr m.req.region m.req.width m.req.src.id.core m.req.src.id.op m.req.src.id.part (Zb m.req.src.path) m.req.src.cap.kind m.req.src.cap.base m.req.src.cap.bits m.req.src.cap.rights m.req.src.cap.width m.req.src.cap.level m.req.src.cap.device (Zb m.ids) (m.nodes.map ZT) (Za m.cores) (m.moves.map ZZ) m.base m.next.number (Za m.next.members) (Za m.next.owners) (m.state.slots.map Zh) (m.state.pending.map Zt) (m.state.marks.map Zi) (m.state.answers.map Zy) (m.state.entries.map Zf) (Zb m.state.commits) m.report.core m.report.view.number (Za m.report.view.members) (Za m.report.view.owners) (m.report.state.slots.map Zh) (m.report.state.pending.map Zt) (m.report.state.marks.map Zi) (m.report.state.answers.map Zy) (m.report.state.entries.map Zf) (Zb m.report.state.commits) m.report.ready m.report.next.number (Za m.report.next.members) (Za m.report.next.owners) (m.report.proposal.slots.map Zh) (m.report.proposal.pending.map Zt) (m.report.proposal.marks.map Zi) (m.report.proposal.answers.map Zy) (m.report.proposal.entries.map Zf) (Zb m.report.proposal.commits) (((1:Nat)):Int)):=by
 rw [KM]
 refine Ze (if_neg (Zr (by kernel_rfl))) ?_
 refine Ze (if_pos (by kernel_rfl)) ?_
 refine Zc (ZDf hb hl off ho f) fun r ⟨v,o,f',hr,h⟩=>?_
 subst hr
 exact Zg ⟨{ m with req:=v },o,f',rfl,h.fr (fun w=>w.req) ⟨h.tot,hm.nodes,hm.ids,hm.cores,hm.moves,hm.next,hm.state,hm.report⟩ ⟨rfl,rfl,rfl,rfl⟩ (fun g hg hk=>match g,hk with | 0,_=>rfl | 1,h=>absurd rfl h | 2,_=>rfl | 3,_=>rfl | 4,_=>rfl | 5,_=>rfl | 6,_=>rfl | 7,_=>rfl | 8,_=>rfl | 9,_=>rfl | 10,_=>rfl | 11,_=>rfl | 12,_=>rfl | 13,_=>rfl | 14,_=>rfl | n+15,_=>trivial) (fun w hg hk=>⟨⟨hg.req,Zkp hk⟩,rfl⟩) (fun w e=>e)⟩
theorem ZA2 {bs:List Int} (hb:Zv bs) (hl:bs.length≤1000000) (off:Nat) (ho:off≤bs.length) (f:Bool) (m:Msg) (hm:TM bs.length m):Ret (FW bs m off f 2) (g64 (Zd bs) off f m.kind m.view m.frm m.to m.round m.region m.slot m.op.core m.op.op m.op.part m.err m.settled m.req.id.core m.req.id.op m.req.id.part m.req.call.kind m.req.call.slot m.req.call.dest m.req.call.core m.req.call.mask m.req.call.object m.req.call.bits m.req.call.level m.req.call.offset m.req.call.count m.req.call.index m.req.call.addr m.req.region m.req.width m.req.src.id.core m.req.src.id.op m.req.src.id.part (Zb m.req.src.path) m.req.src.cap.kind m.req.src.cap.base m.req.src.cap.bits m.req.src.cap.rights m.req.src.cap.width m.req.src.cap.level m.req.src.cap.device (Zb m.ids) (m.nodes.map ZT) (Za m.cores) (m.moves.map ZZ) m.base m.next.number (Za m.next.members) (Za m.next.owners) (m.state.slots.map Zh) (m.state.pending.map Zt) (m.state.marks.map Zi) (m.state.answers.map Zy) (m.state.entries.map Zf) (Zb m.state.commits) m.report.core m.report.view.number (Za m.report.view.members) (Za m.report.view.owners) (m.report.state.slots.map Zh) (m.report.state.pending.map Zt) (m.report.state.marks.map Zi) (m.report.state.answers.map Zy) (m.report.state.entries.map Zf) (Zb m.report.state.commits) m.report.ready m.report.next.number (Za m.report.next.members) (Za m.report.next.owners) (m.report.proposal.slots.map Zh) (m.report.proposal.pending.map Zt) (m.report.proposal.marks.map Zi) (m.report.proposal.answers.map Zy) (m.report.proposal.entries.map Zf) (Zb m.report.proposal.commits) (((2:Nat)):Int)):=by
 rw [KM]
 refine Ze (if_neg (Zr (by kernel_rfl))) ?_
 refine Ze (if_neg (Zr (by kernel_rfl))) ?_
 refine Ze (if_pos (by kernel_rfl)) ?_
 refine Zc (Zw8 hb hl off ho f) fun r ⟨v,o,f',hr,h⟩=>?_
 subst hr
 exact Zg ⟨{ m with op:=v },o,f',rfl,h.fr (fun w=>w.op) ⟨hm.req,hm.nodes,hm.ids,hm.cores,hm.moves,hm.next,hm.state,hm.report⟩ ⟨rfl,rfl,rfl,rfl⟩ (fun g hg hk=>match g,hk with | 0,_=>rfl | 1,_=>rfl | 2,h=>absurd rfl h | 3,_=>rfl | 4,_=>rfl | 5,_=>rfl | 6,_=>rfl | 7,_=>rfl | 8,_=>rfl | 9,_=>rfl | 10,_=>rfl | 11,_=>rfl | 12,_=>rfl | 13,_=>rfl | 14,_=>rfl | n+15,_=>trivial) (fun w hg hk=>⟨hg.op,rfl⟩) (fun w e=>e)⟩
theorem ZAX {bs:List Int} (hb:Zv bs) (hl:bs.length≤1000000) (off:Nat) (ho:off≤bs.length) (f:Bool) (m:Msg) (hm:TM bs.length m):Ret (FW bs m off f 3) (g64 (Zd bs) off f m.kind m.view m.frm m.to m.round m.region m.slot m.op.core m.op.op m.op.part m.err m.settled m.req.id.core m.req.id.op m.req.id.part m.req.call.kind m.req.call.slot m.req.call.dest m.req.call.core m.req.call.mask m.req.call.object m.req.call.bits m.req.call.level m.req.call.offset m.req.call.count m.req.call.index m.req.call.addr m.req.region m.req.width m.req.src.id.core m.req.src.id.op m.req.src.id.part (Zb m.req.src.path) m.req.src.cap.kind m.req.src.cap.base m.req.src.cap.bits m.req.src.cap.rights m.req.src.cap.width m.req.src.cap.level m.req.src.cap.device (Zb m.ids) (m.nodes.map ZT) (Za m.cores) (m.moves.map ZZ) m.base m.next.number (Za m.next.members) (Za m.next.owners) (m.state.slots.map Zh) (m.state.pending.map Zt) (m.state.marks.map Zi) (m.state.answers.map Zy) (m.state.entries.map Zf) (Zb m.state.commits) m.report.core m.report.view.number (Za m.report.view.members) (Za m.report.view.owners) (m.report.state.slots.map Zh) (m.report.state.pending.map Zt) (m.report.state.marks.map Zi) (m.report.state.answers.map Zy) (m.report.state.entries.map Zf) (Zb m.report.state.commits) m.report.ready m.report.next.number (Za m.report.next.members) (Za m.report.next.owners) (m.report.proposal.slots.map Zh) (m.report.proposal.pending.map Zt) (m.report.proposal.marks.map Zi) (m.report.proposal.answers.map Zy) (m.report.proposal.entries.map Zf) (Zb m.report.proposal.commits) (((3:Nat)):Int)):=by
 rw [KM]
 refine Ze (if_neg (Zr (by kernel_rfl))) ?_
 refine Ze (if_neg (Zr (by kernel_rfl))) ?_
 refine Ze (if_neg (Zr (by kernel_rfl))) ?_
 refine Ze (if_pos (by kernel_rfl)) ?_
 refine Zc (w63 hb hl off ho f) fun r ⟨v,o,f',hr,h⟩=>?_
 subst hr
 exact Zg ⟨{ m with err:=v },o,f',rfl,h.fr (fun w=>w.err) ⟨hm.req,hm.nodes,hm.ids,hm.cores,hm.moves,hm.next,hm.state,hm.report⟩ ⟨rfl,rfl,rfl,rfl⟩ (fun g hg hk=>match g,hk with | 0,_=>rfl | 1,_=>rfl | 2,_=>rfl | 3,h=>absurd rfl h | 4,_=>rfl | 5,_=>rfl | 6,_=>rfl | 7,_=>rfl | 8,_=>rfl | 9,_=>rfl | 10,_=>rfl | 11,_=>rfl | 12,_=>rfl | 13,_=>rfl | 14,_=>rfl | n+15,_=>trivial) (fun w hg hk=>⟨hg.err,rfl⟩) (fun w e=>e)⟩
theorem ZBf {bs:List Int} (hb:Zv bs) (hl:bs.length≤1000000) (off:Nat) (ho:off≤bs.length) (f:Bool) (m:Msg) (hm:TM bs.length m):Ret (FW bs m off f 4) (g64 (Zd bs) off f m.kind m.view m.frm m.to m.round m.region m.slot m.op.core m.op.op m.op.part m.err m.settled m.req.id.core m.req.id.op m.req.id.part m.req.call.kind m.req.call.slot m.req.call.dest m.req.call.core m.req.call.mask m.req.call.object m.req.call.bits m.req.call.level m.req.call.offset m.req.call.count m.req.call.index m.req.call.addr m.req.region m.req.width m.req.src.id.core m.req.src.id.op m.req.src.id.part (Zb m.req.src.path) m.req.src.cap.kind m.req.src.cap.base m.req.src.cap.bits m.req.src.cap.rights m.req.src.cap.width m.req.src.cap.level m.req.src.cap.device (Zb m.ids) (m.nodes.map ZT) (Za m.cores) (m.moves.map ZZ) m.base m.next.number (Za m.next.members) (Za m.next.owners) (m.state.slots.map Zh) (m.state.pending.map Zt) (m.state.marks.map Zi) (m.state.answers.map Zy) (m.state.entries.map Zf) (Zb m.state.commits) m.report.core m.report.view.number (Za m.report.view.members) (Za m.report.view.owners) (m.report.state.slots.map Zh) (m.report.state.pending.map Zt) (m.report.state.marks.map Zi) (m.report.state.answers.map Zy) (m.report.state.entries.map Zf) (Zb m.report.state.commits) m.report.ready m.report.next.number (Za m.report.next.members) (Za m.report.next.owners) (m.report.proposal.slots.map Zh) (m.report.proposal.pending.map Zt) (m.report.proposal.marks.map Zi) (m.report.proposal.answers.map Zy) (m.report.proposal.entries.map Zf) (Zb m.report.proposal.commits) (((4:Nat)):Int)):=by
 rw [KM]
 refine Ze (if_neg (Zr (by kernel_rfl))) ?_
 refine Ze (if_neg (Zr (by kernel_rfl))) ?_
 refine Ze (if_neg (Zr (by kernel_rfl))) ?_
 refine Ze (if_neg (Zr (by kernel_rfl))) ?_
 refine Ze (if_pos (by kernel_rfl)) ?_
 refine Zc (ZDl hb hl off ho f) fun r ⟨v,o,f',hr,h⟩=>?_
 subst hr
 exact Zg ⟨{ m with settled:=v },o,f',rfl,h.fr (fun w=>w.settled) ⟨hm.req,hm.nodes,hm.ids,hm.cores,hm.moves,hm.next,hm.state,hm.report⟩ ⟨rfl,rfl,rfl,rfl⟩ (fun g hg hk=>match g,hk with | 0,_=>rfl | 1,_=>rfl | 2,_=>rfl | 3,_=>rfl | 4,h=>absurd rfl h | 5,_=>rfl | 6,_=>rfl | 7,_=>rfl | 8,_=>rfl | 9,_=>rfl | 10,_=>rfl | 11,_=>rfl | 12,_=>rfl | 13,_=>rfl | 14,_=>rfl | n+15,_=>trivial) (fun w hg hk=>⟨trivial,rfl⟩) (fun w e=>e)⟩
theorem ZCA {bs:List Int} (hb:Zv bs) (hl:bs.length≤1000000) (off:Nat) (ho:off≤bs.length) (f:Bool) (m:Msg) (hm:TM bs.length m):Ret (FW bs m off f 5) (g64 (Zd bs) off f m.kind m.view m.frm m.to m.round m.region m.slot m.op.core m.op.op m.op.part m.err m.settled m.req.id.core m.req.id.op m.req.id.part m.req.call.kind m.req.call.slot m.req.call.dest m.req.call.core m.req.call.mask m.req.call.object m.req.call.bits m.req.call.level m.req.call.offset m.req.call.count m.req.call.index m.req.call.addr m.req.region m.req.width m.req.src.id.core m.req.src.id.op m.req.src.id.part (Zb m.req.src.path) m.req.src.cap.kind m.req.src.cap.base m.req.src.cap.bits m.req.src.cap.rights m.req.src.cap.width m.req.src.cap.level m.req.src.cap.device (Zb m.ids) (m.nodes.map ZT) (Za m.cores) (m.moves.map ZZ) m.base m.next.number (Za m.next.members) (Za m.next.owners) (m.state.slots.map Zh) (m.state.pending.map Zt) (m.state.marks.map Zi) (m.state.answers.map Zy) (m.state.entries.map Zf) (Zb m.state.commits) m.report.core m.report.view.number (Za m.report.view.members) (Za m.report.view.owners) (m.report.state.slots.map Zh) (m.report.state.pending.map Zt) (m.report.state.marks.map Zi) (m.report.state.answers.map Zy) (m.report.state.entries.map Zf) (Zb m.report.state.commits) m.report.ready m.report.next.number (Za m.report.next.members) (Za m.report.next.owners) (m.report.proposal.slots.map Zh) (m.report.proposal.pending.map Zt) (m.report.proposal.marks.map Zi) (m.report.proposal.answers.map Zy) (m.report.proposal.entries.map Zf) (Zb m.report.proposal.commits) (((5:Nat)):Int)):=by
 rw [KM]
 refine Ze (if_neg (Zr (by kernel_rfl))) ?_
 refine Ze (if_neg (Zr (by kernel_rfl))) ?_
 refine Ze (if_neg (Zr (by kernel_rfl))) ?_
 refine Ze (if_neg (Zr (by kernel_rfl))) ?_
 refine Ze (if_neg (Zr (by kernel_rfl))) ?_
 refine Ze (if_pos (by kernel_rfl)) ?_
 refine Zc (ZEB hb hl off ho f) fun r ⟨v,o,f',hr,h⟩=>?_
 subst hr
 exact Zg ⟨{ m with nodes:=v },o,f',rfl,h.fr (fun w=>w.nodes) ⟨hm.req,h.tot,hm.ids,hm.cores,hm.moves,hm.next,hm.state,hm.report⟩ ⟨rfl,rfl,rfl,rfl⟩ (fun g hg hk=>match g,hk with | 0,_=>rfl | 1,_=>rfl | 2,_=>rfl | 3,_=>rfl | 4,_=>rfl | 5,h=>absurd rfl h | 6,_=>rfl | 7,_=>rfl | 8,_=>rfl | 9,_=>rfl | 10,_=>rfl | 11,_=>rfl | 12,_=>rfl | 13,_=>rfl | 14,_=>rfl | n+15,_=>trivial) (fun w hg hk=>⟨⟨J5 hg.nodesn,fun x hx=>.inl ((by simp only [ZK,Bool.and_eq_true,List.all_eq_true] at hk;exact hk.2 x hx))⟩,rfl⟩) (fun w e=>e)⟩
theorem ZB6 {bs:List Int} (hb:Zv bs) (hl:bs.length≤1000000) (off:Nat) (ho:off≤bs.length) (f:Bool) (m:Msg) (hm:TM bs.length m):Ret (FW bs m off f 6) (g64 (Zd bs) off f m.kind m.view m.frm m.to m.round m.region m.slot m.op.core m.op.op m.op.part m.err m.settled m.req.id.core m.req.id.op m.req.id.part m.req.call.kind m.req.call.slot m.req.call.dest m.req.call.core m.req.call.mask m.req.call.object m.req.call.bits m.req.call.level m.req.call.offset m.req.call.count m.req.call.index m.req.call.addr m.req.region m.req.width m.req.src.id.core m.req.src.id.op m.req.src.id.part (Zb m.req.src.path) m.req.src.cap.kind m.req.src.cap.base m.req.src.cap.bits m.req.src.cap.rights m.req.src.cap.width m.req.src.cap.level m.req.src.cap.device (Zb m.ids) (m.nodes.map ZT) (Za m.cores) (m.moves.map ZZ) m.base m.next.number (Za m.next.members) (Za m.next.owners) (m.state.slots.map Zh) (m.state.pending.map Zt) (m.state.marks.map Zi) (m.state.answers.map Zy) (m.state.entries.map Zf) (Zb m.state.commits) m.report.core m.report.view.number (Za m.report.view.members) (Za m.report.view.owners) (m.report.state.slots.map Zh) (m.report.state.pending.map Zt) (m.report.state.marks.map Zi) (m.report.state.answers.map Zy) (m.report.state.entries.map Zf) (Zb m.report.state.commits) m.report.ready m.report.next.number (Za m.report.next.members) (Za m.report.next.owners) (m.report.proposal.slots.map Zh) (m.report.proposal.pending.map Zt) (m.report.proposal.marks.map Zi) (m.report.proposal.answers.map Zy) (m.report.proposal.entries.map Zf) (Zb m.report.proposal.commits) (((6:Nat)):Int)):=by
 rw [KM]
 refine Ze (if_neg (Zr (by kernel_rfl))) ?_
 refine Ze (if_neg (Zr (by kernel_rfl))) ?_
 refine Ze (if_neg (Zr (by kernel_rfl))) ?_
 refine Ze (if_neg (Zr (by kernel_rfl))) ?_
 refine Ze (if_neg (Zr (by kernel_rfl))) ?_
 refine Ze (if_neg (Zr (by kernel_rfl))) ?_
 refine Ze (if_pos (by kernel_rfl)) ?_
 refine Zc (w63 hb hl off ho f) fun r ⟨v,o,f',hr,h⟩=>?_
 subst hr
 exact Zg ⟨{ m with slot:=v },o,f',rfl,h.fr (fun w=>w.slot) ⟨hm.req,hm.nodes,hm.ids,hm.cores,hm.moves,hm.next,hm.state,hm.report⟩ ⟨rfl,rfl,rfl,rfl⟩ (fun g hg hk=>match g,hk with | 0,_=>rfl | 1,_=>rfl | 2,_=>rfl | 3,_=>rfl | 4,_=>rfl | 5,_=>rfl | 6,h=>absurd rfl h | 7,_=>rfl | 8,_=>rfl | 9,_=>rfl | 10,_=>rfl | 11,_=>rfl | 12,_=>rfl | 13,_=>rfl | 14,_=>rfl | n+15,_=>trivial) (fun w hg hk=>⟨hg.slot,rfl⟩) (fun w e=>e)⟩
theorem ZBs {bs:List Int} (hb:Zv bs) (hl:bs.length≤1000000) (off:Nat) (ho:off≤bs.length) (f:Bool) (m:Msg) (hm:TM bs.length m):Ret (FW bs m off f 7) (g64 (Zd bs) off f m.kind m.view m.frm m.to m.round m.region m.slot m.op.core m.op.op m.op.part m.err m.settled m.req.id.core m.req.id.op m.req.id.part m.req.call.kind m.req.call.slot m.req.call.dest m.req.call.core m.req.call.mask m.req.call.object m.req.call.bits m.req.call.level m.req.call.offset m.req.call.count m.req.call.index m.req.call.addr m.req.region m.req.width m.req.src.id.core m.req.src.id.op m.req.src.id.part (Zb m.req.src.path) m.req.src.cap.kind m.req.src.cap.base m.req.src.cap.bits m.req.src.cap.rights m.req.src.cap.width m.req.src.cap.level m.req.src.cap.device (Zb m.ids) (m.nodes.map ZT) (Za m.cores) (m.moves.map ZZ) m.base m.next.number (Za m.next.members) (Za m.next.owners) (m.state.slots.map Zh) (m.state.pending.map Zt) (m.state.marks.map Zi) (m.state.answers.map Zy) (m.state.entries.map Zf) (Zb m.state.commits) m.report.core m.report.view.number (Za m.report.view.members) (Za m.report.view.owners) (m.report.state.slots.map Zh) (m.report.state.pending.map Zt) (m.report.state.marks.map Zi) (m.report.state.answers.map Zy) (m.report.state.entries.map Zf) (Zb m.report.state.commits) m.report.ready m.report.next.number (Za m.report.next.members) (Za m.report.next.owners) (m.report.proposal.slots.map Zh) (m.report.proposal.pending.map Zt) (m.report.proposal.marks.map Zi) (m.report.proposal.answers.map Zy) (m.report.proposal.entries.map Zf) (Zb m.report.proposal.commits) (((7:Nat)):Int)):=by
 rw [KM]
 refine Ze (if_neg (Zr (by kernel_rfl))) ?_
 refine Ze (if_neg (Zr (by kernel_rfl))) ?_
 refine Ze (if_neg (Zr (by kernel_rfl))) ?_
 refine Ze (if_neg (Zr (by kernel_rfl))) ?_
 refine Ze (if_neg (Zr (by kernel_rfl))) ?_
 refine Ze (if_neg (Zr (by kernel_rfl))) ?_
 refine Ze (if_neg (Zr (by kernel_rfl))) ?_
 refine Ze (if_pos (by kernel_rfl)) ?_
 refine Zc (ZCX hb hl off ho f) fun r ⟨v,o,f',hr,h⟩=>?_
 subst hr
 exact Zg ⟨{ m with ids:=v },o,f',rfl,h.fr (fun w=>w.ids) ⟨hm.req,hm.nodes,h.tot.1,hm.cores,hm.moves,hm.next,hm.state,hm.report⟩ ⟨rfl,rfl,rfl,rfl⟩ (fun g hg hk=>match g,hk with | 0,_=>rfl | 1,_=>rfl | 2,_=>rfl | 3,_=>rfl | 4,_=>rfl | 5,_=>rfl | 6,_=>rfl | 7,h=>absurd rfl h | 8,_=>rfl | 9,_=>rfl | 10,_=>rfl | 11,_=>rfl | 12,_=>rfl | 13,_=>rfl | 14,_=>rfl | n+15,_=>trivial) (fun w hg hk=>⟨⟨J5 hg.idsn,hg.ids⟩,rfl⟩) (fun w e=>e)⟩
theorem ZBk {bs:List Int} (hb:Zv bs) (hl:bs.length≤1000000) (off:Nat) (ho:off≤bs.length) (f:Bool) (m:Msg) (hm:TM bs.length m):Ret (FW bs m off f 8) (g64 (Zd bs) off f m.kind m.view m.frm m.to m.round m.region m.slot m.op.core m.op.op m.op.part m.err m.settled m.req.id.core m.req.id.op m.req.id.part m.req.call.kind m.req.call.slot m.req.call.dest m.req.call.core m.req.call.mask m.req.call.object m.req.call.bits m.req.call.level m.req.call.offset m.req.call.count m.req.call.index m.req.call.addr m.req.region m.req.width m.req.src.id.core m.req.src.id.op m.req.src.id.part (Zb m.req.src.path) m.req.src.cap.kind m.req.src.cap.base m.req.src.cap.bits m.req.src.cap.rights m.req.src.cap.width m.req.src.cap.level m.req.src.cap.device (Zb m.ids) (m.nodes.map ZT) (Za m.cores) (m.moves.map ZZ) m.base m.next.number (Za m.next.members) (Za m.next.owners) (m.state.slots.map Zh) (m.state.pending.map Zt) (m.state.marks.map Zi) (m.state.answers.map Zy) (m.state.entries.map Zf) (Zb m.state.commits) m.report.core m.report.view.number (Za m.report.view.members) (Za m.report.view.owners) (m.report.state.slots.map Zh) (m.report.state.pending.map Zt) (m.report.state.marks.map Zi) (m.report.state.answers.map Zy) (m.report.state.entries.map Zf) (Zb m.report.state.commits) m.report.ready m.report.next.number (Za m.report.next.members) (Za m.report.next.owners) (m.report.proposal.slots.map Zh) (m.report.proposal.pending.map Zt) (m.report.proposal.marks.map Zi) (m.report.proposal.answers.map Zy) (m.report.proposal.entries.map Zf) (Zb m.report.proposal.commits) (((8:Nat)):Int)):=by
 rw [KM]
 refine Ze (if_neg (Zr (by kernel_rfl))) ?_
 refine Ze (if_neg (Zr (by kernel_rfl))) ?_
 refine Ze (if_neg (Zr (by kernel_rfl))) ?_
 refine Ze (if_neg (Zr (by kernel_rfl))) ?_
 refine Ze (if_neg (Zr (by kernel_rfl))) ?_
 refine Ze (if_neg (Zr (by kernel_rfl))) ?_
 refine Ze (if_neg (Zr (by kernel_rfl))) ?_
 refine Ze (if_neg (Zr (by kernel_rfl))) ?_
 refine Ze (if_pos (by kernel_rfl)) ?_
 refine Zc (w63 hb hl off ho f) fun r ⟨v,o,f',hr,h⟩=>?_
 subst hr
 exact Zg ⟨{ m with round:=v },o,f',rfl,h.fr (fun w=>w.round) ⟨hm.req,hm.nodes,hm.ids,hm.cores,hm.moves,hm.next,hm.state,hm.report⟩ ⟨rfl,rfl,rfl,rfl⟩ (fun g hg hk=>match g,hk with | 0,_=>rfl | 1,_=>rfl | 2,_=>rfl | 3,_=>rfl | 4,_=>rfl | 5,_=>rfl | 6,_=>rfl | 7,_=>rfl | 8,h=>absurd rfl h | 9,_=>rfl | 10,_=>rfl | 11,_=>rfl | 12,_=>rfl | 13,_=>rfl | 14,_=>rfl | n+15,_=>trivial) (fun w hg hk=>⟨hg.round,rfl⟩) (fun w e=>e)⟩
theorem Zz4 {bs:List Int} (hb:Zv bs) (hl:bs.length≤1000000) (off:Nat) (ho:off≤bs.length) (f:Bool) (m:Msg) (hm:TM bs.length m):Ret (FW bs m off f 9) (g64 (Zd bs) off f m.kind m.view m.frm m.to m.round m.region m.slot m.op.core m.op.op m.op.part m.err m.settled m.req.id.core m.req.id.op m.req.id.part m.req.call.kind m.req.call.slot m.req.call.dest m.req.call.core m.req.call.mask m.req.call.object m.req.call.bits m.req.call.level m.req.call.offset m.req.call.count m.req.call.index m.req.call.addr m.req.region m.req.width m.req.src.id.core m.req.src.id.op m.req.src.id.part (Zb m.req.src.path) m.req.src.cap.kind m.req.src.cap.base m.req.src.cap.bits m.req.src.cap.rights m.req.src.cap.width m.req.src.cap.level m.req.src.cap.device (Zb m.ids) (m.nodes.map ZT) (Za m.cores) (m.moves.map ZZ) m.base m.next.number (Za m.next.members) (Za m.next.owners) (m.state.slots.map Zh) (m.state.pending.map Zt) (m.state.marks.map Zi) (m.state.answers.map Zy) (m.state.entries.map Zf) (Zb m.state.commits) m.report.core m.report.view.number (Za m.report.view.members) (Za m.report.view.owners) (m.report.state.slots.map Zh) (m.report.state.pending.map Zt) (m.report.state.marks.map Zi) (m.report.state.answers.map Zy) (m.report.state.entries.map Zf) (Zb m.report.state.commits) m.report.ready m.report.next.number (Za m.report.next.members) (Za m.report.next.owners) (m.report.proposal.slots.map Zh) (m.report.proposal.pending.map Zt) (m.report.proposal.marks.map Zi) (m.report.proposal.answers.map Zy) (m.report.proposal.entries.map Zf) (Zb m.report.proposal.commits) (((9:Nat)):Int)):=by
 rw [KM]
 refine Ze (if_neg (Zr (by kernel_rfl))) ?_
 refine Ze (if_neg (Zr (by kernel_rfl))) ?_
 refine Ze (if_neg (Zr (by kernel_rfl))) ?_
 refine Ze (if_neg (Zr (by kernel_rfl))) ?_
 refine Ze (if_neg (Zr (by kernel_rfl))) ?_
 refine Ze (if_neg (Zr (by kernel_rfl))) ?_
 refine Ze (if_neg (Zr (by kernel_rfl))) ?_
 refine Ze (if_neg (Zr (by kernel_rfl))) ?_
 refine Ze (if_neg (Zr (by kernel_rfl))) ?_
 refine Ze (if_pos (by kernel_rfl)) ?_
 refine Zc (ZAB hb hl off ho f) fun r ⟨v,o,f',hr,h⟩=>?_
 subst hr
 exact Zg ⟨{ m with cores:=v },o,f',rfl,h.fr (fun w=>w.cores) ⟨hm.req,hm.nodes,hm.ids,h.tot.1,hm.moves,hm.next,hm.state,hm.report⟩ ⟨rfl,rfl,rfl,rfl⟩ (fun g hg hk=>match g,hk with | 0,_=>rfl | 1,_=>rfl | 2,_=>rfl | 3,_=>rfl | 4,_=>rfl | 5,_=>rfl | 6,_=>rfl | 7,_=>rfl | 8,_=>rfl | 9,h=>absurd rfl h | 10,_=>rfl | 11,_=>rfl | 12,_=>rfl | 13,_=>rfl | 14,_=>rfl | n+15,_=>trivial) (fun w hg hk=>⟨⟨J5 hg.coresn,hg.cores⟩,rfl⟩) (fun w e=>e)⟩
theorem ZwB {bs:List Int} (hb:Zv bs) (hl:bs.length≤1000000) (off:Nat) (ho:off≤bs.length) (f:Bool) (m:Msg) (hm:TM bs.length m):Ret (FW bs m off f 10) (g64 (Zd bs) off f m.kind m.view m.frm m.to m.round m.region m.slot m.op.core m.op.op m.op.part m.err m.settled m.req.id.core m.req.id.op m.req.id.part m.req.call.kind m.req.call.slot m.req.call.dest m.req.call.core m.req.call.mask m.req.call.object m.req.call.bits m.req.call.level m.req.call.offset m.req.call.count m.req.call.index m.req.call.addr m.req.region m.req.width m.req.src.id.core m.req.src.id.op m.req.src.id.part (Zb m.req.src.path) m.req.src.cap.kind m.req.src.cap.base m.req.src.cap.bits m.req.src.cap.rights m.req.src.cap.width m.req.src.cap.level m.req.src.cap.device (Zb m.ids) (m.nodes.map ZT) (Za m.cores) (m.moves.map ZZ) m.base m.next.number (Za m.next.members) (Za m.next.owners) (m.state.slots.map Zh) (m.state.pending.map Zt) (m.state.marks.map Zi) (m.state.answers.map Zy) (m.state.entries.map Zf) (Zb m.state.commits) m.report.core m.report.view.number (Za m.report.view.members) (Za m.report.view.owners) (m.report.state.slots.map Zh) (m.report.state.pending.map Zt) (m.report.state.marks.map Zi) (m.report.state.answers.map Zy) (m.report.state.entries.map Zf) (Zb m.report.state.commits) m.report.ready m.report.next.number (Za m.report.next.members) (Za m.report.next.owners) (m.report.proposal.slots.map Zh) (m.report.proposal.pending.map Zt) (m.report.proposal.marks.map Zi) (m.report.proposal.answers.map Zy) (m.report.proposal.entries.map Zf) (Zb m.report.proposal.commits) (((10:Nat)):Int)):=by
 rw [KM]
 refine Ze (if_neg (Zr (by kernel_rfl))) ?_
 refine Ze (if_neg (Zr (by kernel_rfl))) ?_
 refine Ze (if_neg (Zr (by kernel_rfl))) ?_
 refine Ze (if_neg (Zr (by kernel_rfl))) ?_
 refine Ze (if_neg (Zr (by kernel_rfl))) ?_
 refine Ze (if_neg (Zr (by kernel_rfl))) ?_
 refine Ze (if_neg (Zr (by kernel_rfl))) ?_
 refine Ze (if_neg (Zr (by kernel_rfl))) ?_
 refine Ze (if_neg (Zr (by kernel_rfl))) ?_
 refine Ze (if_neg (Zr (by kernel_rfl))) ?_
 refine Ze (if_pos (by kernel_rfl)) ?_
 refine Zc (ZEt hb hl off ho f) fun r ⟨v,o,f',hr,h⟩=>?_
 subst hr
 exact Zg ⟨{ m with report:=v },o,f',rfl,h.fr (fun w=>w.report) ⟨hm.req,hm.nodes,hm.ids,hm.cores,hm.moves,hm.next,hm.state,h.tot⟩ ⟨rfl,rfl,rfl,rfl⟩ (fun g hg hk=>match g,hk with | 0,_=>rfl | 1,_=>rfl | 2,_=>rfl | 3,_=>rfl | 4,_=>rfl | 5,_=>rfl | 6,_=>rfl | 7,_=>rfl | 8,_=>rfl | 9,_=>rfl | 10,h=>absurd rfl h | 11,_=>rfl | 12,_=>rfl | 13,_=>rfl | 14,_=>rfl | n+15,_=>trivial) (fun w hg hk=>⟨(by simp only [ZK,Zfd,Bool.and_eq_true] at hk;exact ⟨hg.report.core,hg.report.view,VF hk.1.1.2 hg.report.state,hg.report.next,VF hk.2 hg.report.proposal⟩),rfl⟩) (fun w e=>e)⟩
theorem Zx6 {bs:List Int} (hb:Zv bs) (hl:bs.length≤1000000) (off:Nat) (ho:off≤bs.length) (f:Bool) (m:Msg) (hm:TM bs.length m):Ret (FW bs m off f 11) (g64 (Zd bs) off f m.kind m.view m.frm m.to m.round m.region m.slot m.op.core m.op.op m.op.part m.err m.settled m.req.id.core m.req.id.op m.req.id.part m.req.call.kind m.req.call.slot m.req.call.dest m.req.call.core m.req.call.mask m.req.call.object m.req.call.bits m.req.call.level m.req.call.offset m.req.call.count m.req.call.index m.req.call.addr m.req.region m.req.width m.req.src.id.core m.req.src.id.op m.req.src.id.part (Zb m.req.src.path) m.req.src.cap.kind m.req.src.cap.base m.req.src.cap.bits m.req.src.cap.rights m.req.src.cap.width m.req.src.cap.level m.req.src.cap.device (Zb m.ids) (m.nodes.map ZT) (Za m.cores) (m.moves.map ZZ) m.base m.next.number (Za m.next.members) (Za m.next.owners) (m.state.slots.map Zh) (m.state.pending.map Zt) (m.state.marks.map Zi) (m.state.answers.map Zy) (m.state.entries.map Zf) (Zb m.state.commits) m.report.core m.report.view.number (Za m.report.view.members) (Za m.report.view.owners) (m.report.state.slots.map Zh) (m.report.state.pending.map Zt) (m.report.state.marks.map Zi) (m.report.state.answers.map Zy) (m.report.state.entries.map Zf) (Zb m.report.state.commits) m.report.ready m.report.next.number (Za m.report.next.members) (Za m.report.next.owners) (m.report.proposal.slots.map Zh) (m.report.proposal.pending.map Zt) (m.report.proposal.marks.map Zi) (m.report.proposal.answers.map Zy) (m.report.proposal.entries.map Zf) (Zb m.report.proposal.commits) (((11:Nat)):Int)):=by
 rw [KM]
 refine Ze (if_neg (Zr (by kernel_rfl))) ?_
 refine Ze (if_neg (Zr (by kernel_rfl))) ?_
 refine Ze (if_neg (Zr (by kernel_rfl))) ?_
 refine Ze (if_neg (Zr (by kernel_rfl))) ?_
 refine Ze (if_neg (Zr (by kernel_rfl))) ?_
 refine Ze (if_neg (Zr (by kernel_rfl))) ?_
 refine Ze (if_neg (Zr (by kernel_rfl))) ?_
 refine Ze (if_neg (Zr (by kernel_rfl))) ?_
 refine Ze (if_neg (Zr (by kernel_rfl))) ?_
 refine Ze (if_neg (Zr (by kernel_rfl))) ?_
 refine Ze (if_neg (Zr (by kernel_rfl))) ?_
 refine Ze (if_pos (by kernel_rfl)) ?_
 refine Zc (w63 hb hl off ho f) fun r ⟨v,o,f',hr,h⟩=>?_
 subst hr
 exact Zg ⟨{ m with base:=v },o,f',rfl,h.fr (fun w=>w.base) ⟨hm.req,hm.nodes,hm.ids,hm.cores,hm.moves,hm.next,hm.state,hm.report⟩ ⟨rfl,rfl,rfl,rfl⟩ (fun g hg hk=>match g,hk with | 0,_=>rfl | 1,_=>rfl | 2,_=>rfl | 3,_=>rfl | 4,_=>rfl | 5,_=>rfl | 6,_=>rfl | 7,_=>rfl | 8,_=>rfl | 9,_=>rfl | 10,_=>rfl | 11,h=>absurd rfl h | 12,_=>rfl | 13,_=>rfl | 14,_=>rfl | n+15,_=>trivial) (fun w hg hk=>⟨hg.base,rfl⟩) (fun w e=>e)⟩
theorem Zxz {bs:List Int} (hb:Zv bs) (hl:bs.length≤1000000) (off:Nat) (ho:off≤bs.length) (f:Bool) (m:Msg) (hm:TM bs.length m):Ret (FW bs m off f 12) (g64 (Zd bs) off f m.kind m.view m.frm m.to m.round m.region m.slot m.op.core m.op.op m.op.part m.err m.settled m.req.id.core m.req.id.op m.req.id.part m.req.call.kind m.req.call.slot m.req.call.dest m.req.call.core m.req.call.mask m.req.call.object m.req.call.bits m.req.call.level m.req.call.offset m.req.call.count m.req.call.index m.req.call.addr m.req.region m.req.width m.req.src.id.core m.req.src.id.op m.req.src.id.part (Zb m.req.src.path) m.req.src.cap.kind m.req.src.cap.base m.req.src.cap.bits m.req.src.cap.rights m.req.src.cap.width m.req.src.cap.level m.req.src.cap.device (Zb m.ids) (m.nodes.map ZT) (Za m.cores) (m.moves.map ZZ) m.base m.next.number (Za m.next.members) (Za m.next.owners) (m.state.slots.map Zh) (m.state.pending.map Zt) (m.state.marks.map Zi) (m.state.answers.map Zy) (m.state.entries.map Zf) (Zb m.state.commits) m.report.core m.report.view.number (Za m.report.view.members) (Za m.report.view.owners) (m.report.state.slots.map Zh) (m.report.state.pending.map Zt) (m.report.state.marks.map Zi) (m.report.state.answers.map Zy) (m.report.state.entries.map Zf) (Zb m.report.state.commits) m.report.ready m.report.next.number (Za m.report.next.members) (Za m.report.next.owners) (m.report.proposal.slots.map Zh) (m.report.proposal.pending.map Zt) (m.report.proposal.marks.map Zi) (m.report.proposal.answers.map Zy) (m.report.proposal.entries.map Zf) (Zb m.report.proposal.commits) (((12:Nat)):Int)):=by
 rw [KM]
 refine Ze (if_neg (Zr (by kernel_rfl))) ?_
 refine Ze (if_neg (Zr (by kernel_rfl))) ?_
 refine Ze (if_neg (Zr (by kernel_rfl))) ?_
 refine Ze (if_neg (Zr (by kernel_rfl))) ?_
 refine Ze (if_neg (Zr (by kernel_rfl))) ?_
 refine Ze (if_neg (Zr (by kernel_rfl))) ?_
 refine Ze (if_neg (Zr (by kernel_rfl))) ?_
 refine Ze (if_neg (Zr (by kernel_rfl))) ?_
 refine Ze (if_neg (Zr (by kernel_rfl))) ?_
 refine Ze (if_neg (Zr (by kernel_rfl))) ?_
 refine Ze (if_neg (Zr (by kernel_rfl))) ?_
 refine Ze (if_neg (Zr (by kernel_rfl))) ?_
 refine Ze (if_pos (by kernel_rfl)) ?_
 refine Zc (ZB7 hb hl off ho f) fun r ⟨v,o,f',hr,h⟩=>?_
 subst hr
 exact Zg ⟨{ m with next:=v },o,f',rfl,h.fr (fun w=>w.next) ⟨hm.req,hm.nodes,hm.ids,hm.cores,hm.moves,h.tot,hm.state,hm.report⟩ ⟨rfl,rfl,rfl,rfl⟩ (fun g hg hk=>match g,hk with | 0,_=>rfl | 1,_=>rfl | 2,_=>rfl | 3,_=>rfl | 4,_=>rfl | 5,_=>rfl | 6,_=>rfl | 7,_=>rfl | 8,_=>rfl | 9,_=>rfl | 10,_=>rfl | 11,_=>rfl | 12,h=>absurd rfl h | 13,_=>rfl | 14,_=>rfl | n+15,_=>trivial) (fun w hg hk=>⟨hg.next,rfl⟩) (fun w e=>e)⟩
theorem ZxW {bs:List Int} (hb:Zv bs) (hl:bs.length≤1000000) (off:Nat) (ho:off≤bs.length) (f:Bool) (m:Msg) (hm:TM bs.length m):Ret (FW bs m off f 13) (g64 (Zd bs) off f m.kind m.view m.frm m.to m.round m.region m.slot m.op.core m.op.op m.op.part m.err m.settled m.req.id.core m.req.id.op m.req.id.part m.req.call.kind m.req.call.slot m.req.call.dest m.req.call.core m.req.call.mask m.req.call.object m.req.call.bits m.req.call.level m.req.call.offset m.req.call.count m.req.call.index m.req.call.addr m.req.region m.req.width m.req.src.id.core m.req.src.id.op m.req.src.id.part (Zb m.req.src.path) m.req.src.cap.kind m.req.src.cap.base m.req.src.cap.bits m.req.src.cap.rights m.req.src.cap.width m.req.src.cap.level m.req.src.cap.device (Zb m.ids) (m.nodes.map ZT) (Za m.cores) (m.moves.map ZZ) m.base m.next.number (Za m.next.members) (Za m.next.owners) (m.state.slots.map Zh) (m.state.pending.map Zt) (m.state.marks.map Zi) (m.state.answers.map Zy) (m.state.entries.map Zf) (Zb m.state.commits) m.report.core m.report.view.number (Za m.report.view.members) (Za m.report.view.owners) (m.report.state.slots.map Zh) (m.report.state.pending.map Zt) (m.report.state.marks.map Zi) (m.report.state.answers.map Zy) (m.report.state.entries.map Zf) (Zb m.report.state.commits) m.report.ready m.report.next.number (Za m.report.next.members) (Za m.report.next.owners) (m.report.proposal.slots.map Zh) (m.report.proposal.pending.map Zt) (m.report.proposal.marks.map Zi) (m.report.proposal.answers.map Zy) (m.report.proposal.entries.map Zf) (Zb m.report.proposal.commits) (((13:Nat)):Int)):=by
 rw [KM]
 refine Ze (if_neg (Zr (by kernel_rfl))) ?_
 refine Ze (if_neg (Zr (by kernel_rfl))) ?_
 refine Ze (if_neg (Zr (by kernel_rfl))) ?_
 refine Ze (if_neg (Zr (by kernel_rfl))) ?_
 refine Ze (if_neg (Zr (by kernel_rfl))) ?_
 refine Ze (if_neg (Zr (by kernel_rfl))) ?_
 refine Ze (if_neg (Zr (by kernel_rfl))) ?_
 refine Ze (if_neg (Zr (by kernel_rfl))) ?_
 refine Ze (if_neg (Zr (by kernel_rfl))) ?_
 refine Ze (if_neg (Zr (by kernel_rfl))) ?_
 refine Ze (if_neg (Zr (by kernel_rfl))) ?_
 refine Ze (if_neg (Zr (by kernel_rfl))) ?_
 refine Ze (if_neg (Zr (by kernel_rfl))) ?_
 refine Ze (if_pos (by kernel_rfl)) ?_
 refine Zc (ZBm hb hl off ho f) fun r ⟨v,o,f',hr,h⟩=>?_
 subst hr
 exact Zg ⟨{ m with state:=v },o,f',rfl,h.fr (fun w=>w.state) ⟨hm.req,hm.nodes,hm.ids,hm.cores,hm.moves,hm.next,h.tot,hm.report⟩ ⟨rfl,rfl,rfl,rfl⟩ (fun g hg hk=>match g,hk with | 0,_=>rfl | 1,_=>rfl | 2,_=>rfl | 3,_=>rfl | 4,_=>rfl | 5,_=>rfl | 6,_=>rfl | 7,_=>rfl | 8,_=>rfl | 9,_=>rfl | 10,_=>rfl | 11,_=>rfl | 12,_=>rfl | 13,h=>absurd rfl h | 14,_=>rfl | n+15,_=>trivial) (fun w hg hk=>⟨VF hk hg.state,rfl⟩) (fun w e=>e)⟩
theorem Zw9 {bs:List Int} (hb:Zv bs) (hl:bs.length≤1000000) (off:Nat) (ho:off≤bs.length) (f:Bool) (m:Msg) (hm:TM bs.length m):Ret (FW bs m off f 14) (g64 (Zd bs) off f m.kind m.view m.frm m.to m.round m.region m.slot m.op.core m.op.op m.op.part m.err m.settled m.req.id.core m.req.id.op m.req.id.part m.req.call.kind m.req.call.slot m.req.call.dest m.req.call.core m.req.call.mask m.req.call.object m.req.call.bits m.req.call.level m.req.call.offset m.req.call.count m.req.call.index m.req.call.addr m.req.region m.req.width m.req.src.id.core m.req.src.id.op m.req.src.id.part (Zb m.req.src.path) m.req.src.cap.kind m.req.src.cap.base m.req.src.cap.bits m.req.src.cap.rights m.req.src.cap.width m.req.src.cap.level m.req.src.cap.device (Zb m.ids) (m.nodes.map ZT) (Za m.cores) (m.moves.map ZZ) m.base m.next.number (Za m.next.members) (Za m.next.owners) (m.state.slots.map Zh) (m.state.pending.map Zt) (m.state.marks.map Zi) (m.state.answers.map Zy) (m.state.entries.map Zf) (Zb m.state.commits) m.report.core m.report.view.number (Za m.report.view.members) (Za m.report.view.owners) (m.report.state.slots.map Zh) (m.report.state.pending.map Zt) (m.report.state.marks.map Zi) (m.report.state.answers.map Zy) (m.report.state.entries.map Zf) (Zb m.report.state.commits) m.report.ready m.report.next.number (Za m.report.next.members) (Za m.report.next.owners) (m.report.proposal.slots.map Zh) (m.report.proposal.pending.map Zt) (m.report.proposal.marks.map Zi) (m.report.proposal.answers.map Zy) (m.report.proposal.entries.map Zf) (Zb m.report.proposal.commits) (((14:Nat)):Int)):=by
 rw [KM]
 refine Ze (if_neg (Zr (by kernel_rfl))) ?_
 refine Ze (if_neg (Zr (by kernel_rfl))) ?_
 refine Ze (if_neg (Zr (by kernel_rfl))) ?_
 refine Ze (if_neg (Zr (by kernel_rfl))) ?_
 refine Ze (if_neg (Zr (by kernel_rfl))) ?_
 refine Ze (if_neg (Zr (by kernel_rfl))) ?_
 refine Ze (if_neg (Zr (by kernel_rfl))) ?_
 refine Ze (if_neg (Zr (by kernel_rfl))) ?_
 refine Ze (if_neg (Zr (by kernel_rfl))) ?_
 refine Ze (if_neg (Zr (by kernel_rfl))) ?_
 refine Ze (if_neg (Zr (by kernel_rfl))) ?_
 refine Ze (if_neg (Zr (by kernel_rfl))) ?_
 refine Ze (if_neg (Zr (by kernel_rfl))) ?_
 refine Ze (if_neg (Zr (by kernel_rfl))) ?_
 refine Ze (if_pos (by kernel_rfl)) ?_
 refine Zc (ZEx hb hl off ho f) fun r ⟨v,o,f',hr,h⟩=>?_
 subst hr
 exact Zg ⟨{ m with moves:=v },o,f',rfl,h.fr (fun w=>w.moves) ⟨hm.req,hm.nodes,hm.ids,hm.cores,h.tot.1,hm.next,hm.state,hm.report⟩ ⟨rfl,rfl,rfl,rfl⟩ (fun g hg hk=>match g,hk with | 0,_=>rfl | 1,_=>rfl | 2,_=>rfl | 3,_=>rfl | 4,_=>rfl | 5,_=>rfl | 6,_=>rfl | 7,_=>rfl | 8,_=>rfl | 9,_=>rfl | 10,_=>rfl | 11,_=>rfl | 12,_=>rfl | 13,_=>rfl | 14,h=>absurd rfl h | n+15,_=>trivial) (fun w hg hk=>⟨⟨J5 hg.movesn,fun x hx=>hg.moves x hx⟩,rfl⟩) (fun w e=>e)⟩
theorem w64 {bs:List Int} (hb:Zv bs) (hl:bs.length≤1000000) (off:Nat) (ho:off≤bs.length) (f:Bool) (m:Msg) (hm:TM bs.length m) (k:Nat) (hk:k < 15):Ret (FW bs m off f k) (g64 (Zd bs) off f m.kind m.view m.frm m.to m.round m.region m.slot m.op.core m.op.op m.op.part m.err m.settled m.req.id.core m.req.id.op m.req.id.part m.req.call.kind m.req.call.slot m.req.call.dest m.req.call.core m.req.call.mask m.req.call.object m.req.call.bits m.req.call.level m.req.call.offset m.req.call.count m.req.call.index m.req.call.addr m.req.region m.req.width m.req.src.id.core m.req.src.id.op m.req.src.id.part (Zb m.req.src.path) m.req.src.cap.kind m.req.src.cap.base m.req.src.cap.bits m.req.src.cap.rights m.req.src.cap.width m.req.src.cap.level m.req.src.cap.device (Zb m.ids) (m.nodes.map ZT) (Za m.cores) (m.moves.map ZZ) m.base m.next.number (Za m.next.members) (Za m.next.owners) (m.state.slots.map Zh) (m.state.pending.map Zt) (m.state.marks.map Zi) (m.state.answers.map Zy) (m.state.entries.map Zf) (Zb m.state.commits) m.report.core m.report.view.number (Za m.report.view.members) (Za m.report.view.owners) (m.report.state.slots.map Zh) (m.report.state.pending.map Zt) (m.report.state.marks.map Zi) (m.report.state.answers.map Zy) (m.report.state.entries.map Zf) (Zb m.report.state.commits) m.report.ready m.report.next.number (Za m.report.next.members) (Za m.report.next.owners) (m.report.proposal.slots.map Zh) (m.report.proposal.pending.map Zt) (m.report.proposal.marks.map Zi) (m.report.proposal.answers.map Zy) (m.report.proposal.entries.map Zf) (Zb m.report.proposal.commits) (k:Int)):=by
 match k,hk with
 | 0, _ => exact ZzW hb hl off ho f m hm
 | 1, _ => exact ZCr hb hl off ho f m hm
 | 2, _ => exact ZA2 hb hl off ho f m hm
 | 3, _ => exact ZAX hb hl off ho f m hm
 | 4, _ => exact ZBf hb hl off ho f m hm
 | 5, _ => exact ZCA hb hl off ho f m hm
 | 6, _ => exact ZB6 hb hl off ho f m hm
 | 7, _ => exact ZBs hb hl off ho f m hm
 | 8, _ => exact ZBk hb hl off ho f m hm
 | 9, _ => exact Zz4 hb hl off ho f m hm
 | 10, _ => exact ZwB hb hl off ho f m hm
 | 11, _ => exact Zx6 hb hl off ho f m hm
 | 12, _ => exact Zxz hb hl off ho f m hm
 | 13, _ => exact ZxW hb hl off ho f m hm
 | 14, _ => exact Zw9 hb hl off ho f m hm
theorem Zdr {a b c:Msg} : ∀ {g:Nat},eqF a b g→eqF b c g→eqF a c g
 | 0, h, h2 => Eq.trans (h : a.region = b.region) h2
 | 1, h, h2 => Eq.trans (h : a.req = b.req) h2
 | 2, h, h2 => Eq.trans (h : a.op = b.op) h2
 | 3, h, h2 => Eq.trans (h : a.err = b.err) h2
 | 4, h, h2 => Eq.trans (h : a.settled = b.settled) h2
 | 5, h, h2 => Eq.trans (h : a.nodes = b.nodes) h2
 | 6, h, h2 => Eq.trans (h : a.slot = b.slot) h2
 | 7, h, h2 => Eq.trans (h : a.ids = b.ids) h2
 | 8, h, h2 => Eq.trans (h : a.round = b.round) h2
 | 9, h, h2 => Eq.trans (h : a.cores = b.cores) h2
 | 10, h, h2 => Eq.trans (h : a.report = b.report) h2
 | 11, h, h2 => Eq.trans (h : a.base = b.base) h2
 | 12, h, h2 => Eq.trans (h : a.next = b.next) h2
 | 13, h, h2 => Eq.trans (h : a.state = b.state) h2
 | 14, h, h2 => Eq.trans (h : a.moves = b.moves) h2
 | n + 15, _, _ => trivial
structure DL (bs:List Int) (m0:Msg) (o0:Nat) (f0:Bool) (L:List Nat) (i:Nat) (m:Msg) (o:Nat) (f:Bool):Prop where
 le:o≤bs.length
 tm:TM bs.length m
 hd:m.kind=m0.kind∧m.view=m0.view∧m.frm=m0.frm∧m.to=m0.to
 oth:∀ g,g < 15→g∉L.take i→eqF m m0 g
 post:∀ w rest,f0=false→w.Good→(∀ g∈L,ZK w g=true)→bs.drop o0=(L.map (Yf w)).flatten++rest→(∀ g∈L.take i,eqF m w g)∧bs.drop o=((L.drop i).map (Yf w)).flatten++rest∧f=false
theorem DL.step {bs:List Int} {m0 m m':Msg} {o0 o o':Nat} {f0 f f':Bool} {L:List Nat} {i:Nat} (h:DL bs m0 o0 f0 L i m o f) (hi:i < L.length) (hL:∀ g∈L,g < 15) (h2:FR bs m o f L[i] m' o' f'):DL bs m0 o0 f0 L (i+1) m' o' f':=by
 have ht:L.take (i+1)=L.take i++[L[i]]:=by rw [List.take_add_one,List.getElem?_eq_getElem hi];rfl
 obtain ⟨a1,a2,a3,a4⟩:=h.hd
 obtain ⟨b1,b2,b3,b4⟩:=h2.hd
 refine ⟨h2.le,h2.tm,⟨b1.trans a1,b2.trans a2,b3.trans a3,b4.trans a4⟩,fun g hg hn=>?_,fun w rest hf hw hok hrem=>?_⟩
 ·rw [ht,List.mem_append,List.mem_singleton] at hn
  exact Zdr (h2.oth g hg fun e=>hn (.inr e)) (h.oth g hg fun e=>hn (.inl e))
 ·obtain ⟨p1,p2,p3⟩:=h.post w rest hf hw hok hrem
  rw [List.drop_eq_getElem_cons hi,List.map_cons,List.flatten_cons,List.append_assoc] at p2
  obtain ⟨q1,q2,q3⟩:=h2.post w _ p3 hw (hok _ (List.getElem_mem hi)) p2
  refine ⟨fun g hg=>?_,q2,q3⟩
  by_cases he:g=L[i]
  ·rw [he];exact q1
  ·rw [ht,List.mem_append,List.mem_singleton] at hg
   have hg':=hg.resolve_right he
   exact Zdr (h2.oth g (hL g (List.mem_of_mem_take hg')) he) (p1 g hg')
theorem l17 {bs:List Int} {P:Qt4→Prop} (hb:Zv bs) (hl:bs.length≤1000000) {L:List Nat} (hL:∀ g∈L,g < 15) (hn:L.length≤5) (m0:Msg) (o0:Nat) (f0:Bool) (ho:o0≤bs.length) (ht:TM bs.length m0)
  (last:∀ k (m:Msg) (o:Nat) (f:Bool),DL bs m0 o0 f0 L L.length m o f→Ret P (ZhX (k+1) (Zd bs) 0 0 0 0 0 0 0 0 0 0 0 false 0 0 0 0 0 0 0 0 0 0 0 0 0 0 0 0 0 0 0 0 E0 0 0 0 0 0 0 false E0 E0 E0 E0 0 0 E0 E0 E0 E0 E0 E0 E0 E0 0 0 E0 E0 E0 E0 E0 E0 E0 E0 false 0 E0 E0 E0 E0 E0 E0 E0 E0 m.kind m.view m.frm m.to m.round m.region m.slot m.op.core m.op.op m.op.part m.err m.settled m.req.id.core m.req.id.op m.req.id.part m.req.call.kind m.req.call.slot m.req.call.dest m.req.call.core m.req.call.mask m.req.call.object m.req.call.bits m.req.call.level m.req.call.offset m.req.call.count m.req.call.index m.req.call.addr m.req.region m.req.width m.req.src.id.core m.req.src.id.op m.req.src.id.part (Zb m.req.src.path) m.req.src.cap.kind m.req.src.cap.base m.req.src.cap.bits m.req.src.cap.rights m.req.src.cap.width m.req.src.cap.level m.req.src.cap.device (Zb m.ids) (m.nodes.map ZT) (Za m.cores) (m.moves.map ZZ) m.base m.next.number (Za m.next.members) (Za m.next.owners) (m.state.slots.map Zh) (m.state.pending.map Zt) (m.state.marks.map Zi) (m.state.answers.map Zy) (m.state.entries.map Zf) (Zb m.state.commits) m.report.core m.report.view.number (Za m.report.view.members) (Za m.report.view.owners) (m.report.state.slots.map Zh) (m.report.state.pending.map Zt) (m.report.state.marks.map Zi) (m.report.state.answers.map Zy) (m.report.state.entries.map Zf) (Zb m.report.state.commits) m.report.ready m.report.next.number (Za m.report.next.members) (Za m.report.next.owners) (m.report.proposal.slots.map Zh) (m.report.proposal.pending.map Zt) (m.report.proposal.marks.map Zi) (m.report.proposal.answers.map Zy) (m.report.proposal.entries.map Zf) (Zb m.report.proposal.commits) (fc L) (L.length:Int) (L.length:Int) (Zd bs) (o:Int) f)) :
  Ret P (ZhX ZB (Zd bs) 0 0 0 0 0 0 0 0 0 0 0 false 0 0 0 0 0 0 0 0 0 0 0 0 0 0 0 0 0 0 0 0 E0 0 0 0 0 0 0 false E0 E0 E0 E0 0 0 E0 E0 E0 E0 E0 E0 E0 E0 0 0 E0 E0 E0 E0 E0 E0 E0 E0 false 0 E0 E0 E0 E0 E0 E0 E0 E0 m0.kind m0.view m0.frm m0.to m0.round m0.region m0.slot m0.op.core m0.op.op m0.op.part m0.err m0.settled m0.req.id.core m0.req.id.op m0.req.id.part m0.req.call.kind m0.req.call.slot m0.req.call.dest m0.req.call.core m0.req.call.mask m0.req.call.object m0.req.call.bits m0.req.call.level m0.req.call.offset m0.req.call.count m0.req.call.index m0.req.call.addr m0.req.region m0.req.width m0.req.src.id.core m0.req.src.id.op m0.req.src.id.part (Zb m0.req.src.path) m0.req.src.cap.kind m0.req.src.cap.base m0.req.src.cap.bits m0.req.src.cap.rights m0.req.src.cap.width m0.req.src.cap.level m0.req.src.cap.device (Zb m0.ids) (m0.nodes.map ZT) (Za m0.cores) (m0.moves.map ZZ) m0.base m0.next.number (Za m0.next.members) (Za m0.next.owners) (m0.state.slots.map Zh) (m0.state.pending.map Zt) (m0.state.marks.map Zi) (m0.state.answers.map Zy) (m0.state.entries.map Zf) (Zb m0.state.commits) m0.report.core m0.report.view.number (Za m0.report.view.members) (Za m0.report.view.owners) (m0.report.state.slots.map Zh) (m0.report.state.pending.map Zt) (m0.report.state.marks.map Zi) (m0.report.state.answers.map Zy) (m0.report.state.entries.map Zf) (Zb m0.report.state.commits) m0.report.ready m0.report.next.number (Za m0.report.next.members) (Za m0.report.next.owners) (m0.report.proposal.slots.map Zh) (m0.report.proposal.pending.map Zt) (m0.report.proposal.marks.map Zi) (m0.report.proposal.answers.map Zy) (m0.report.proposal.entries.map Zf) (Zb m0.report.proposal.commits) (fc L) (L.length:Int) 0 (Zd bs) (o0:Int) f0):=by
 refine Km (F:=fun k (s:Msg×Nat×Bool) z=>ZhX k (Zd bs) 0 0 0 0 0 0 0 0 0 0 0 false 0 0 0 0 0 0 0 0 0 0 0 0 0 0 0 0 0 0 0 0 E0 0 0 0 0 0 0 false E0 E0 E0 E0 0 0 E0 E0 E0 E0 E0 E0 E0 E0 0 0 E0 E0 E0 E0 E0 E0 E0 E0 false 0 E0 E0 E0 E0 E0 E0 E0 E0 s.1.kind s.1.view s.1.frm s.1.to s.1.round s.1.region s.1.slot s.1.op.core s.1.op.op s.1.op.part s.1.err s.1.settled s.1.req.id.core s.1.req.id.op s.1.req.id.part s.1.req.call.kind s.1.req.call.slot s.1.req.call.dest s.1.req.call.core s.1.req.call.mask s.1.req.call.object s.1.req.call.bits s.1.req.call.level s.1.req.call.offset s.1.req.call.count s.1.req.call.index s.1.req.call.addr s.1.req.region s.1.req.width s.1.req.src.id.core s.1.req.src.id.op s.1.req.src.id.part (Zb s.1.req.src.path) s.1.req.src.cap.kind s.1.req.src.cap.base s.1.req.src.cap.bits s.1.req.src.cap.rights s.1.req.src.cap.width s.1.req.src.cap.level s.1.req.src.cap.device (Zb s.1.ids) (s.1.nodes.map ZT) (Za s.1.cores) (s.1.moves.map ZZ) s.1.base s.1.next.number (Za s.1.next.members) (Za s.1.next.owners) (s.1.state.slots.map Zh) (s.1.state.pending.map Zt) (s.1.state.marks.map Zi) (s.1.state.answers.map Zy) (s.1.state.entries.map Zf) (Zb s.1.state.commits) s.1.report.core s.1.report.view.number (Za s.1.report.view.members) (Za s.1.report.view.owners) (s.1.report.state.slots.map Zh) (s.1.report.state.pending.map Zt) (s.1.report.state.marks.map Zi) (s.1.report.state.answers.map Zy) (s.1.report.state.entries.map Zf) (Zb s.1.report.state.commits) s.1.report.ready s.1.report.next.number (Za s.1.report.next.members) (Za s.1.report.next.owners) (s.1.report.proposal.slots.map Zh) (s.1.report.proposal.pending.map Zt) (s.1.report.proposal.marks.map Zi) (s.1.report.proposal.answers.map Zy) (s.1.report.proposal.entries.map Zf) (Zb s.1.report.proposal.commits) (fc L) (L.length:Int) z (Zd bs) (s.2.1:Int) s.2.2) (n:=L.length) (fun i s=>DL bs m0 o0 f0 L i s.1 s.2.1 s.2.2) (by omega) (fun k i s hi hj ih=>?_) (fun k s hj=>last k s.1 s.2.1 s.2.2 hj) (m0,o0,f0) ⟨ho,ht,⟨rfl,rfl,rfl,rfl⟩,fun g hg _=>?_,fun w rest hf hw hok hrem=>⟨fun g hg=>by simp at hg,hrem,hf⟩⟩
 ·obtain ⟨m,o,f⟩:=s
  dsimp only at hj ih ⊢
  refine Ze (ZkE ..) (Ze (if_pos (Z6 hi)) (Ze (ZjE hi _) ?_))
  refine Zc (w64 hb hl o hj.le f m hj.tm L[i] (hL _ (List.getElem_mem hi))) fun r ⟨m',o',f',hr,h⟩=>?_
  subst hr
  rw [Z1 hi (by omega)]
  exact ih (m',o',f') (hj.step hi hL h)
 ·match g,hg with
  | 0, _ => exact rfl
  | 1, _ => exact rfl
  | 2, _ => exact rfl
  | 3, _ => exact rfl
  | 4, _ => exact rfl
  | 5, _ => exact rfl
  | 6, _ => exact rfl
  | 7, _ => exact rfl
  | 8, _ => exact rfl
  | 9, _ => exact rfl
  | 10, _ => exact rfl
  | 11, _ => exact rfl
  | 12, _ => exact rfl
  | 13, _ => exact rfl
  | 14, _ => exact rfl
theorem Zso {n:Nat} (hn:n≤1000000) {m:Msg} (h:TM n m):m.Sized∧m.Short:=by
 have st:∀ s:Jv,TS n s→s.Sized∧s.Short:=fun s h=>by
  obtain ⟨a1,a2,a3,a4,a5,a6,a7,a8,a9⟩:=h
  have tn:∀ x:J4,TN x→x.path.length < 2^44:=fun x h=>by have h:x.path.length≤8:=h;omega
  exact ⟨⟨by omega,by omega,by omega,by omega,by omega,by omega,fun x hx=>tn _ (a2 x hx),fun x hx=>⟨tn _ (a4 x hx).2,(a4 x hx).1⟩,fun x hx=>tn _ (a8 x hx)⟩,⟨by omega,by omega,by omega,by omega,by omega,by omega⟩⟩
 have vw:∀ v:Vu,TV n v→v.Sized∧v.members.length≤2000000∧v.owners.length≤2000000:=fun v h=>by
  obtain ⟨a,b⟩:=h
  exact ⟨⟨by omega,by omega⟩,by omega,by omega⟩
 obtain ⟨⟨r1,r2⟩,⟨n1,n2⟩,a1,a2,a3,v,s,p⟩:=h
 obtain ⟨p1,p2,p3,p4⟩:=p
 have r2:m.req.src.path.length≤8:=r2
 refine ⟨⟨by omega,r1,by omega,by omega,fun x hx=>?_,by omega,by omega,(vw _ v).1,(st _ s).1,⟨(vw _ p1).1,(st _ p2).1,(vw _ p3).1,(st _ p4).1⟩⟩,⟨by omega,by omega,by omega,by omega,(vw _ v).2.1,(vw _ v).2.2,(vw _ p1).2.1,(vw _ p1).2.2,(vw _ p3).2.1,(vw _ p3).2.2,(st _ s).2,(st _ p2).2,(st _ p4).2⟩⟩
 have h:x.path.length≤8:=n2 x hx
 omega
def JK (a b c d:Int):Msg:=⟨a,b,c,d,0,0,0,zid,0,false,Jg,[],[],[],[],0,ZQ,Zq,Zu⟩
theorem ZrC (n:Nat) (a b c d:Int):TM n (JK a b c d):=by
 have r0:Rng 0:=⟨by decide,by decide⟩
 have tn:TN ZS:=by simp [TN,ZS]
 have tv:TV n ZQ:=⟨Nat.zero_le _,Nat.zero_le _⟩
 have ts:TS n Zq:=⟨Nat.zero_le _,by simp [Zq],Nat.zero_le _,by simp [Zq],Nat.zero_le _,Nat.zero_le _,Nat.zero_le _,by simp [Zq],Nat.zero_le _⟩
 exact ⟨⟨(Zot _).2 ⟨r0,r0,r0,r0,r0,r0,r0,r0,r0,r0,r0,r0⟩,tn⟩,⟨Nat.zero_le _,by simp [JK]⟩,Nat.zero_le _,Nat.zero_le _,Nat.zero_le _,tv,ts,⟨tv,ts,tv,ts⟩⟩
theorem Zst (a b c d:Int):∀ g,g < 15→zf (JK a b c d) g=true
 | 0, _ => rfl
 | 1, _ => rfl
 | 2, _ => rfl
 | 3, _ => rfl
 | 4, _ => rfl
 | 5, _ => rfl
 | 6, _ => rfl
 | 7, _ => rfl
 | 8, _ => rfl
 | 9, _ => rfl
 | 10, _ => rfl
 | 11, _ => rfl
 | 12, _ => rfl
 | 13, _ => rfl
 | 14, _ => rfl
 | n + 15, h => absurd h (by omega)
theorem DL.all {bs:List Int} {a b c d:Int} {L:List Nat} {o0 o:Nat} {f0 f:Bool} {m w:Msg} (h:DL bs (JK a b c d) o0 f0 L L.length m o f) (hw:ZoS w) (hL:L=kf w.kind.toNat) (ha:a=w.kind) (hb:b=w.view) (hc:c=w.frm) (hd:d=w.to) (hf:f0=false) (hrem:bs.drop o0=((kf w.kind.toNat).map (Yf w)).flatten):m=w∧f=false:=by
 have vw:=hw.valid
 simp only [Ka,Bool.and_eq_true,List.all_eq_true] at vw
 obtain ⟨p1,_,p3⟩:=h.post w [] hf hw.good (by rw [hL];exact vw.2.1) (by rw [hL,hrem,List.append_nil])
 rw [List.take_length] at p1
 obtain ⟨h1,h2,h3,h4⟩:=h.hd
 refine ⟨Zn3 (h1.trans ha) (h2.trans hb) (h3.trans hc) (h4.trans hd) fun g hg=>?_,p3⟩
 by_cases hk:g∈L
 ·exact p1 g hk
 ·have rb:=vw.2.2
  simp only [rest,List.all_eq_true,List.mem_range,Bool.or_eq_true] at rb
  have hk':¬ (kf w.kind.toNat).contains g=true:=fun h=>hk (by rw [hL];exact List.contains_iff_mem.1 h)
  exact Zdr (h.oth g hg (by rw [List.take_length];exact hk)) (Zvg (Zst a b c d g hg) ((rb g hg).resolve_left hk'))
def ZkY (m:Msg) (e:Int):Qt4:=(m.kind,m.view,m.frm,m.to,m.round,m.region,m.slot,m.op.core,m.op.op,m.op.part,m.err,m.settled,m.req.id.core,m.req.id.op,m.req.id.part,m.req.call.kind,m.req.call.slot,m.req.call.dest,m.req.call.core,m.req.call.mask,m.req.call.object,m.req.call.bits,m.req.call.level,m.req.call.offset,m.req.call.count,m.req.call.index,m.req.call.addr,m.req.region,m.req.width,m.req.src.id.core,m.req.src.id.op,m.req.src.id.part,(Zb m.req.src.path),m.req.src.cap.kind,m.req.src.cap.base,m.req.src.cap.bits,m.req.src.cap.rights,m.req.src.cap.width,m.req.src.cap.level,m.req.src.cap.device,(Zb m.ids),(m.nodes.map ZT),(Za m.cores),(m.moves.map ZZ),m.base,m.next.number,(Za m.next.members),(Za m.next.owners),(m.state.slots.map Zh),(m.state.pending.map Zt),(m.state.marks.map Zi),(m.state.answers.map Zy),(m.state.entries.map Zf),(Zb m.state.commits),m.report.core,m.report.view.number,(Za m.report.view.members),(Za m.report.view.owners),(m.report.state.slots.map Zh),(m.report.state.pending.map Zt),(m.report.state.marks.map Zi),(m.report.state.answers.map Zy),(m.report.state.entries.map Zf),(Zb m.report.state.commits),m.report.ready,m.report.next.number,(Za m.report.next.members),(Za m.report.next.owners),(m.report.proposal.slots.map Zh),(m.report.proposal.pending.map Zt),(m.report.proposal.marks.map Zi),(m.report.proposal.answers.map Zy),(m.report.proposal.entries.map Zf),(Zb m.report.proposal.commits),e)
def Zun:Msg:=JK 0 0 0 0
theorem ZDx {γ:Type} {a b:List Int} (ha:Zv a) (hb:Zv b) {k:Bool→Option γ} : (g65 (Zd a) (Zd b)).bind k=k (decide (a=b)):=by
 rw [Zye,Zj (Zj8 ha),Zj (Zj8 hb),Option.bind_some]
 congr 1
 by_cases h:a=b
 ·subst h
  rw [decide_eq_true rfl,beq_self_eq_true]
 ·rw [decide_eq_false h]
  exact beq_eq_false_iff_ne.2 fun e=>h (ZqI ha hb e)
def ZC9 (bs:List Int) (r:Qt4):Prop:=(∃ m:Msg,ZoS m∧ZdP m=bs∧r=ZkY m 0)∨((∀ m:Msg,ZoS m→ZdP m≠bs)∧r=ZkY Zun 14)
theorem s17 {bs:List Int} (hb:Zv bs) (hl:bs.length≤1000000):Ret (ZC9 bs) (g17 (Zd bs)):=by
 rw [Zx8]
 refine Zc (w63 hb hl 0 (Nat.zero_le _) false) fun r ⟨a,o1,f1,hr,h1⟩=>?_
 subst hr
 refine Zc (w63 hb hl o1 h1.le f1) fun r ⟨b,o2,f2,hr,h2⟩=>?_
 subst hr
 refine Zc (w63 hb hl o2 h2.le f2) fun r ⟨c,o3,f3,hr,h3⟩=>?_
 subst hr
 refine Zc (w63 hb hl o3 h3.le f3) fun r ⟨d,o4,f4,hr,h4⟩=>?_
 subst hr
 have head:∀ w:Msg,ZoS w→ZdP w=bs→a=w.kind∧b=w.view∧c=w.frm∧d=w.to∧f4=false∧bs.drop o4=((kf w.kind.toNat).map (Yf w)).flatten:=fun w hw he=>by
  have hg:=hw.good
  have e0:bs.drop 0=nB w.kind++(nB w.view++(nB w.frm++(nB w.to++((kf w.kind.toNat).map (Yf w)).flatten))):=by
   rw [List.drop_zero,← he];simp only [ZdP,ZlJ,List.append_assoc]
  obtain ⟨e1,r1,b1⟩:=h1.post _ _ rfl hg.kind e0
  obtain ⟨e2,r2,b2⟩:=h2.post _ _ b1 hg.view r1
  obtain ⟨e3,r3,b3⟩:=h3.post _ _ b2 hg.frm r2
  obtain ⟨e4,r4,b4⟩:=h4.post _ _ b3 hg.to r3
  exact ⟨e1,e2,e3,e4,b4,r4⟩
 have kind17:∀ w:Msg,ZoS w→1≤w.kind∧w.kind≤17:=fun w hw=>by
  have hv:=hw.valid
  unfold Ka headOk kindOk at hv
  simp only [Bool.and_eq_true,decide_eq_true_eq] at hv
  exact hv.1.1.1.1
 have go:∀ (L:List Nat) (q:Bool),(∀ g∈L,g < 15)→L.length≤5→(∀ w,ZoS w→ZdP w=bs→L=kf w.kind.toNat)→Ret (ZC9 bs) (ZhX ZB (Zd bs) 0 0 0 0 0 0 0 0 0 0 0 false 0 0 0 0 0 0 0 0 0 0 0 0 0 0 0 0 0 0 0 0 E0 0 0 0 0 0 0 false E0 E0 E0 E0 0 0 E0 E0 E0 E0 E0 E0 E0 E0 0 0 E0 E0 E0 E0 E0 E0 E0 E0 false 0 E0 E0 E0 E0 E0 E0 E0 E0 (JK a b c d).kind (JK a b c d).view (JK a b c d).frm (JK a b c d).to (JK a b c d).round (JK a b c d).region (JK a b c d).slot (JK a b c d).op.core (JK a b c d).op.op (JK a b c d).op.part (JK a b c d).err (JK a b c d).settled (JK a b c d).req.id.core (JK a b c d).req.id.op (JK a b c d).req.id.part (JK a b c d).req.call.kind (JK a b c d).req.call.slot (JK a b c d).req.call.dest (JK a b c d).req.call.core (JK a b c d).req.call.mask (JK a b c d).req.call.object (JK a b c d).req.call.bits (JK a b c d).req.call.level (JK a b c d).req.call.offset (JK a b c d).req.call.count (JK a b c d).req.call.index (JK a b c d).req.call.addr (JK a b c d).req.region (JK a b c d).req.width (JK a b c d).req.src.id.core (JK a b c d).req.src.id.op (JK a b c d).req.src.id.part (Zb (JK a b c d).req.src.path) (JK a b c d).req.src.cap.kind (JK a b c d).req.src.cap.base (JK a b c d).req.src.cap.bits (JK a b c d).req.src.cap.rights (JK a b c d).req.src.cap.width (JK a b c d).req.src.cap.level (JK a b c d).req.src.cap.device (Zb (JK a b c d).ids) ((JK a b c d).nodes.map ZT) (Za (JK a b c d).cores) ((JK a b c d).moves.map ZZ) (JK a b c d).base (JK a b c d).next.number (Za (JK a b c d).next.members) (Za (JK a b c d).next.owners) ((JK a b c d).state.slots.map Zh) ((JK a b c d).state.pending.map Zt) ((JK a b c d).state.marks.map Zi) ((JK a b c d).state.answers.map Zy) ((JK a b c d).state.entries.map Zf) (Zb (JK a b c d).state.commits) (JK a b c d).report.core (JK a b c d).report.view.number (Za (JK a b c d).report.view.members) (Za (JK a b c d).report.view.owners) ((JK a b c d).report.state.slots.map Zh) ((JK a b c d).report.state.pending.map Zt) ((JK a b c d).report.state.marks.map Zi) ((JK a b c d).report.state.answers.map Zy) ((JK a b c d).report.state.entries.map Zf) (Zb (JK a b c d).report.state.commits) (JK a b c d).report.ready (JK a b c d).report.next.number (Za (JK a b c d).report.next.members) (Za (JK a b c d).report.next.owners) ((JK a b c d).report.proposal.slots.map Zh) ((JK a b c d).report.proposal.pending.map Zt) ((JK a b c d).report.proposal.marks.map Zi) ((JK a b c d).report.proposal.answers.map Zy) ((JK a b c d).report.proposal.entries.map Zf) (Zb (JK a b c d).report.proposal.commits) (fc L) (L.length:Int) 0 (Zd bs) (o4:Int) f4):=fun L q hL hn hk=>by
  refine l17 hb hl hL hn (JK a b c d) o4 f4 h4.le (ZrC _ a b c d) fun k m o f hd=>?_
  have all:∀ w,ZoS w→ZdP w=bs→m=w∧f=false:=fun w hw he=>by
   obtain ⟨e1,e2,e3,e4,e5,e6⟩:=head w hw he
   exact hd.all hw (hk w hw he) e1 e2 e3 e4 e5 e6
  obtain ⟨hz,hs⟩:=Zso hl hd.tm
  refine Ze (ZkE ..) (Ze (if_neg (Z5 (Nat.le_refl _))) ?_)
  refine Zl (fun hf=>Zg (.inr ⟨fun w hw he=>?_,rfl⟩)) fun hf=>?_
  ·have:=(all w hw he).2
   rw [this] at hf;cases hf
  refine Jc (s14 m hz.fits fun hv=>Zfe hz hs hv) ?_
  by_cases hv:Ka m=true
  ·rw [if_pos hv]
   have gm:ZoS m:=⟨Zfe hz hs hv,hv⟩
   refine Ze (if_neg (Zr (by kernel_rfl))) ?_
   refine Ze (ZDx (Zlh m) hb) ?_
   refine Zl (fun h=>Zg (.inr ⟨fun w hw he=>?_,rfl⟩)) fun h=>Zg (.inl ⟨m,gm,?_,rfl⟩)
   ·have e:=(all w hw he).1
    rw [e,he] at h
    simp at h
   ·simpa using h
  ·rw [if_neg hv]
   refine Ze (if_pos (by kernel_rfl)) (Zg (.inr ⟨fun w hw he=>?_,rfl⟩))
   have e:=(all w hw he).1
   rw [e] at hv
   exact hv hw.valid
 by_cases hk:1≤a∧a≤17
 ·obtain ⟨n,hn⟩:∃ n:Nat,a=n:=⟨a.toNat,by omega⟩
  have e:=s32 n (by omega) (by omega)
  rw [← hn] at e
  refine Jc e ?_
  have hlen:(fc (kf n)).length=(kf n).length:=List.length_map _
  show Ret _ (ZhX _ _ _ _ _ _ _ _ _ _ _ _ _ _ _ _ _ _ _ _ _ _ _ _ _ _ _ _ _ _ _ _ _ _ _ _ _ _ _ _ _ _ _ _ _ _ _ _ _ _ _ _ _ _ _ _ _ _ _ _ _ _ _ _ _ _ _ _ _ _ _ _ _ _ _ _ _ _ _ _ _ _ _ _ _ _ _ _ _ _ _ _ _ _ _ _ _ _ _ _ _ _ _ _ _ _ _ _ _ _ _ _ _ _ _ _ _ _ _ _ _ _ _ _ _ _ _ _ _ _ _ _ _ _ _ _ _ _ _ _ _ _ _ _ _ _ _ _ _ _ (fc (kf n)) ((fc (kf n)).length:Int) 0 _ _ _)
  rw [hlen]
  refine go (kf n) true (Zsr n) (ZnO n) fun w hw he=>?_
  have:=(head w hw he).1
  rw [show w.kind.toNat=n by omega]
 ·refine Jc (ZC6 a hk) ?_
  refine go [] true (by simp) (by simp) fun w hw he=>?_
  have:=(head w hw he).1
  rw [this] at hk
  exact absurd (kind17 w hw) hk
end Go.Proofs.YtjldbnbdcmfbmaaGreat
end

section
namespace Go.Proofs.YtjldbnbdcmfbmaaGreat
open Go Go.AM
set_option linter.unusedSimpArgs false
set_option linter.unusedVariables false
set_option maxRecDepth 100000
theorem ZcY {s:Jv} (h:StS s):(KI s).length≤12000:=by
 have h1:=ZX Vc 455 12 s.slots (fun x _=>Zfj x) h.slots
 have h2:=ZX ZcJ 598 3 s.pending (fun x _=>ZdG x) h.pend
 have h3:=ZX K7 44 3 s.marks (fun x _=>Zgr x) h.marks
 have h4:=ZX ZdN 22 3 s.answers (fun x _=>Zi3 x) h.answers
 have h5:=ZX Zcn 433 3 s.entries (fun x _=>Ziz x) h.entries
 have h6:=ZX idB 33 3 s.commits (fun x _=>KL x) h.commits
 simp only [KI,List.length_append]
 omega
theorem Zgd {v:Vu} (h:VwG v):(Zaj v).length≤200:=by
 have h1:=Z7 v.number
 have h2:=ZX nB 11 4 v.members (fun x _=>Z7 x) h.members
 have h3:=ZX nB 11 4 v.owners (fun x _=>Z7 x) h.owners
 simp only [Zaj,List.length_append]
 omega
theorem Ztm {r:Jl} (h:RpS r):(Zml r).length≤30000:=by
 have h1:=Z7 r.core
 have h2:=Zgd h.view
 have h3:=ZcY h.state
 have h4:=ZoJ r.ready
 have h5:=Zgd h.next
 have h6:=ZcY h.proposal
 simp only [Zml,List.length_append]
 omega
theorem ZnC {m:Msg} (h:MsS m) (f:Nat):(Yf m f).length≤30000:=by
 match f with
 | 0 => exact Nat.le_trans (Z7 m.region) (by omega)
 | 1 => exact Nat.le_trans (ZdG m.req) (by omega)
 | 2 => exact Nat.le_trans (KL m.op) (by omega)
 | 3 => exact Nat.le_trans (Z7 m.err) (by omega)
 | 4 => exact Nat.le_trans (ZoJ m.settled) (by omega)
 | 5 => exact Nat.le_trans (ZX Kl 411 3 m.nodes (fun x _ => Vl x) h.nodes) (by omega)
 | 6 => exact Nat.le_trans (Z7 m.slot) (by omega)
 | 7 => exact Nat.le_trans (ZX idB 33 8 m.ids (fun x _ => KL x) h.ids) (by omega)
 | 8 => exact Nat.le_trans (Z7 m.round) (by omega)
 | 9 => exact Nat.le_trans (ZX nB 11 4 m.cores (fun x _ => Z7 x) h.cores) (by omega)
 | 10 => exact Ztm h.report
 | 11 => exact Nat.le_trans (Z7 m.base) (by omega)
 | 12 => exact Nat.le_trans (Zgd h.next) (by omega)
 | 13 => exact Nat.le_trans (ZcY h.state) (by omega)
 | 14 => exact Nat.le_trans (ZX Zas 22 3 m.moves (fun x _ => Zf6 x) h.moves) (by omega)
 | n + 15 => exact Nat.zero_le _
theorem Znv {m:Msg} (h:MsS m):(ZdP m).length≤200000:=by
 have h1:=Z7 m.kind
 have h2:=Z7 m.view
 have h3:=Z7 m.frm
 have h4:=Z7 m.to
 have h5:=Zbh (Yf m) 30000 (kf m.kind.toNat) fun f _=>ZnC h f
 have h6:=ZnO m.kind.toNat
 simp only [ZdP,ZlJ,List.length_append]
 omega
theorem s5 (kind:Int) (l:List Int) (hl:RL l) (hll:l.length < 2^63) (sts:List Zq9) (hn:sts.length < 2^63):g5 kind (Za l) (sts.map Vn)=some true:=by
 have key:Ret (fun r=>r=true) (g5 kind (Za l) (sts.map Vn)):=by
  rw [ZBG]
  refine Zl (fun _=>Zp1) fun _=>?_
  refine Zc (s11 sts hn) fun r ⟨f,hf,hr⟩=>?_
  subst hr
  refine Zc (s10 kind l hll f 30 hf (by omega)) fun r ⟨m,hr,hv,hm,hc⟩=>?_
  subst hr
  have gm:=hm.gm (hc hl) hv
  have e1:=s14 m hm.fits fun _=>gm.good
  rw [hv,if_pos rfl] at e1
  have len:=Znv hm
  refine Jc e1 (Zc (s17 (Zlh m) (by omega)) fun r hr=>?_)
  rcases hr with ⟨w,gw,hw,hr⟩ | ⟨h,_⟩
  ·have hwm:w=m:=(ZmU w m [] [] gw gm (by rw [hw])).1
   subst hwm
   subst hr
   refine Ze (if_pos (by kernel_rfl)) (Ze (if_pos (by kernel_rfl)) ?_)
   refine Jc (s19 w w hm.fits hm.fits) ?_
   exact Ze (if_pos (Zl4 w)) Zp1
  ·exact absurd rfl (h m gm)
 obtain ⟨r,e,rfl⟩:=key
 exact e
theorem s6 (kind:Int) (l:List Int) (hl:RL l) (hll:l.length < 2^63) (sts:List Zq9) (hn:sts.length < 2^63) (at' z:Int) (h0:0≤z) (h1:z < 256):g6 kind (Za l) (sts.map Vn) at' z=some true:=by
 have key:Ret (fun r=>r=true) (g6 kind (Za l) (sts.map Vn) at' z):=by
  rw [ZA8]
  refine Zl (fun _=>Zp1) fun _=>?_
  refine Zc (s11 sts hn) fun r ⟨f,hf,hr⟩=>?_
  subst hr
  refine Zc (s10 kind l hll f 30 hf (by omega)) fun r ⟨m,hr,hv,hm,hc⟩=>?_
  subst hr
  have gm:=hm.gm (hc hl) hv
  have e1:=s14 m hm.fits fun _=>gm.good
  rw [hv,if_pos rfl] at e1
  have len:=Znv hm
  have pos:1≤(ZdP m).length:=by
   have:=Zaa m.kind
   simp only [ZdP,ZlJ,List.length_append];omega
  refine Jc e1 (Ze (if_neg (Zr (by kernel_rfl))) ?_)
  dsimp only
  rw [ZV]
  refine Ze (if_neg (by simp only [CQ];omega)) ?_
  refine Zc (place _ _ (by omega) (by omega)) fun n hn2=>?_
  refine Zk (by omega) (Zk (by omega) ?_)
  have et:(Zd (ZdP m)).take n.toNat=Zd ((ZdP m).take n.toNat):=by simp only [Zd,List.map_take]
  rw [et]
  have bt:Zv ((ZdP m).take n.toNat):=fun x hx=>Zlh m x (List.mem_of_mem_take hx)
  refine Zc (s17 bt (by rw [List.length_take];omega)) fun r hr=>?_
  have hr:r=ZkY Zun 14:=by
   rcases hr with ⟨w,gw,hw,_⟩ | ⟨_,h⟩
   ·have:=(ZmU w m ((ZdP m).drop n.toNat) [] gw gm (by rw [hw,List.take_append_drop,List.append_nil])).2
    have h2:=congrArg List.length this
    rw [List.length_drop,List.length_nil] at h2
    omega
   ·exact h
  subst hr
  refine Zk (YK (by rw [ZV,List.length_nil];omega) (by omega)) (Zk (YK (by rw [ZV];simp;omega) (by omega)) ?_)
  have ea:Zd (ZdP m)++(E0++[[AV.val (.int .u8 z)]])=Zd (ZdP m++[z]):=by rw [Zc4];rfl
  rw [ea]
  have bz:Zv (ZdP m++[z]):=fun x hx=>by
   rcases List.mem_append.1 hx with h | h
   ·exact Zlh m x h
   ·rw [List.mem_singleton.1 h];exact ⟨h0,by omega⟩
  refine Zc (s17 bz (by simp;omega)) fun r hr=>?_
  have hr:r=ZkY Zun 14:=by
   rcases hr with ⟨w,gw,hw,_⟩ | ⟨_,h⟩
   ·have:=(ZmU w m [] [z] gw gm (by rw [hw,List.append_nil])).2
    cases this
   ·exact h
  subst hr
  exact Ze (if_pos (by kernel_rfl)) (Ze (if_pos (by kernel_rfl)) (Ze (if_pos (by kernel_rfl)) (Ze (if_pos (by kernel_rfl)) Zp1)))
 obtain ⟨r,e,rfl⟩:=key
 exact e
end Go.Proofs.YtjldbnbdcmfbmaaGreat
end
