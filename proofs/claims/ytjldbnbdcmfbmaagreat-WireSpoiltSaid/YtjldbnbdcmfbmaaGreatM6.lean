/- W8J11b, W8L23f, W8L23g, W8L23h, W8L23i, W8L23j, W8E18w, W8E11c, W8E11d, W8E11e, W8E11f, W8E12b, W8E12g, W8E18k, W8E18l, W8E18m: texts of the proof, put together. -/
import Derived.Test.YtjldbnbdcmfbmaaGreatM5
import Derived.Test.YtjldbnbdcmfbmaaGreatF8f

section
namespace Go.Proofs.YtjldbnbdcmfbmaaGreat
open Go Go.AM
set_option linter.unusedSimpArgs false
set_option linter.unusedVariables false
set_option maxRecDepth 100000
theorem l87 {b r w l k s:Int} {d fl:Bool} {lv wd bits sz off obj cnt:Int} (hb:0≤b) (hoff:0≤off) (hsz:0≤sz) (hc:cnt≤8) (hm:b+off+8*sz < 2^62):∀ (j i fuel:Nat),cnt=i+j→j < fuel→
  V1 fuel obj bits lv wd off cnt k b s r w l d fl sz (Kh obj (b+off) sz bits r (if fl=true then wd else 0) (if fl=true then lv else 0) d i) i=some (Kh obj (b+off) sz bits r (if fl=true then wd else 0) (if fl=true then lv else 0) d cnt.toNat,0):=by
 intro j
 have e62:(2:Int)^62=4611686018427387904:=by decide
 induction j with
 | zero =>
  intro i fuel h hf
  obtain ⟨f,rfl⟩:∃ f,fuel=f+1:=⟨fuel-1,by omega⟩
  rw [Zkd,if_neg (by simp only [JN,J1,JV,JI,JJ,J0,JL,JK,JM,J3,JZ,JX,Bool.not_eq_true,Bool.not_eq_false,Bool.not_eq_true',Bool.not_eq_false',Bool.and_eq_true,Bool.or_eq_true,decide_eq_true_eq,decide_eq_false_iff_not,Bool.false_eq_true,Bool.true_eq_false,Option.bind_some,Option.some.injEq,false_iff,true_iff,iff_false,iff_true];omega)]
  have:cnt.toNat=i:=by omega
  rw [this]
 | succ j ih =>
  intro i fuel h hf
  obtain ⟨f,rfl⟩:∃ f,fuel=f+1:=⟨fuel-1,by omega⟩
  have hsi:(i:Int)*sz≤8*sz:=Int.mul_le_mul_of_nonneg_right (by omega) hsz
  have hsi0:0≤(i:Int)*sz:=Int.mul_nonneg (by omega) hsz
  have a1:iop .add .i64 b off=b+off:=JC (by omega) (by omega)
  have a2:iop .mul .i64 i sz=i*sz:=Zx4 (by omega) (by omega)
  have a3:iop .add .i64 (b+off) (i*sz)=b+off+i*sz:=JC (by omega) (by omega)
  have a4:iop .add .i64 i 1=((i+1:Nat):Int):=by rw [JC (by omega) (by omega)];omega
  have:=ih (i+1) f (by omega) (by omega)
  rw [Zfr] at this
  rw [Zkd,if_pos (by simp only [JN,J1,JV,JI,JJ,J0,JL,JK,JM,J3,JZ,JX,Bool.not_eq_true,Bool.not_eq_false,Bool.not_eq_true',Bool.not_eq_false',Bool.and_eq_true,Bool.or_eq_true,decide_eq_true_eq,decide_eq_false_iff_not,Bool.false_eq_true,Bool.true_eq_false,Option.bind_some,Option.some.injEq,false_iff,true_iff,iff_false,iff_true];omega)]
  cases fl
  ·simp only [Bool.false_eq_true,if_false] at this ⊢
   rw [Zj (ZnG (by rw [ZbP];simp;omega)),a1,a2,a3,a4]
   exact this
  ·simp only [if_true] at this ⊢
   rw [Zj (ZnG (by rw [ZbP];simp;omega)),a1,a2,a3,a4]
   exact this
set_option maxHeartbeats 4000000 in
theorem s87 (k b s r w l:Int) (d:Bool) (obj bits level width off cnt:Int):g87 k b s r w l d obj bits level width off cnt =
  some (Wy ⟨k,b,s,r,w,l,d⟩ obj bits level width off cnt,Zdp ⟨k,b,s,r,w,l,d⟩ obj bits level width off cnt):=by
 rw [Zw6]
 simp only [Zzi,ZDq,ZC3,Option.bind_some]
 by_cases hh:Ka ⟨k,b,s,r,w,l,d⟩=true∧k=1∧iop .and .i64 r 2≠0∧VV obj bits=true∧(obj=3→ZbS width level=true)∧1≤cnt∧cnt≤8∧0≤off
 ·obtain ⟨h1,rfl,h3,h4,h5,h6,h7,h8⟩:=hh
  obtain ⟨n1,n2,n3,n4,n5,n6,n7,n8,n9,n10,n11,n12,n13,n14,n15,n16⟩:=ZoU h1 h4 h6 h7 h8
  have q1:(ZE ((0:Int)≤bits):Option (List (List AV)×Int)→_)=fun x=>x:=Zi0 n7
  have q2:(ZE ((2:Int)^bits.toNat≠0):Option (List (List AV)×Int)→_)=fun x=>x:=Zi0 n6
  have hw1:IntKind.wrap .u64 bits=bits:=Ys n7 (by omega)
  have hw2:IntKind.wrap .u64 s=s:=Ys n8 (by simp only at n16;omega)
  have q3:(ZE ((0:Int)≤s):Option (List (List AV)×Int)→_)=fun x=>x:=Zi0 n8
  simp only at n3 n5
  have loop:∀ fl:Bool,off+cnt*2^bits.toNat≤2^s.toNat→V1 Zr obj bits level width off cnt 1 b s r w l d fl (2^bits.toNat) [] 0=some (Kh obj (b+off) (2^bits.toNat) bits r (if fl=true then width else 0) (if fl=true then level else 0) d cnt.toNat,0):=by
   intro fl hle
   have:=l87 (fl:=fl) (k:=1) (s:=s) (r:=r) (w:=w) (l:=l) (d:=d) (lv:=level) (wd:=width) (bits:=bits) (obj:=obj) (cnt:=cnt) n9 h8 (Int.le_of_lt n11) h7 (show b+off+8*2^bits.toNat < 2^62 by
    have e62:(2:Int)^62=4611686018427387904:=by decide
    simp only at n10
    omega) cnt.toNat 0 Zr (by omega) (Kr (by omega))
   exact this
  have n9':0≤b:=n9
  have n10':b+2^s.toNat≤1099511627776:=n10
  have n5':off≤2^s.toNat→iop .sub .i64 (2^s.toNat) off=2^s.toNat-off:=fun h=>Ziq (by omega) (by omega)
  have hR:Zdp ⟨1,b,s,r,w,l,d⟩ obj bits level width off cnt=if d=true∧obj≠1∧obj≠2 then 5 else if off % 2^bits.toNat≠0∨2^s.toNat-cnt*2^bits.toNat < off∨(obj=1∧s≤bits) then 6 else 0:=by
   rw [Zdp,if_neg (by simp [h1]),if_neg h3,if_neg (by
    rintro (h | ⟨h,h'⟩ | h | h | h)
    ·rw [h4] at h;cases h
    ·rw [h5 h] at h';cases h'
    ·omega
    ·omega
    ·omega)]
  have hk1:cop .neq (1:Int) 1=false:=rfl
  simp only [hw1,hw2,n1,n2,n3,n4,q1,q2,q3,h1,h4,hk1,Bool.not_true,Bool.false_eq_true,if_false]
  clear n1 n2 n3 n4 n5 q1 q2 q3
  by_cases e5:d=true∧obj≠1∧obj≠2
  ·rw [if_pos e5] at hR
   obtain ⟨hd,e1,e2⟩:=e5
   repeat' (with_reducible refine JP (fun _=>?_) (fun _=>?_))
   all_goals first
    | exact ZiP (by decide) hR
    | (exfalso; simp only [JN, J1, JV, JI, JJ, J0, JL, JK, JM, J3, JZ, JX, Bool.not_eq_true, Bool.not_eq_false, Bool.not_eq_true', Bool.not_eq_false', Bool.and_eq_true, Bool.or_eq_true, decide_eq_true_eq, decide_eq_false_iff_not, Bool.false_eq_true, Bool.true_eq_false, Option.bind_some, Option.some.injEq, false_iff, true_iff, iff_false, iff_true] at *; first | omega | grind)
  ·rw [if_neg e5] at hR
   by_cases e6:off % 2^bits.toNat≠0∨2^s.toNat-cnt*2^bits.toNat < off∨(obj=1∧s≤bits)
   ·rw [if_pos e6] at hR
    repeat' (with_reducible refine JP (fun _=>?_) (fun _=>?_))
    all_goals first
     | exact ZiP (by decide) hR
     | (exfalso; simp only [JN, J1, JV, JI, JJ, J0, JL, JK, JM, J3, JZ, JX, Bool.not_eq_true, Bool.not_eq_false, Bool.not_eq_true', Bool.not_eq_false', Bool.and_eq_true, Bool.or_eq_true, decide_eq_true_eq, decide_eq_false_iff_not, Bool.false_eq_true, Bool.true_eq_false, Option.bind_some, Option.some.injEq, false_iff, true_iff, iff_false, iff_true] at *; rw [n5' (by omega)] at *; first | omega | grind)
     | (exfalso; simp only [JN, J1, JV, JI, JJ, J0, JL, JK, JM, J3, JZ, JX, Bool.not_eq_true, Bool.not_eq_false, Bool.not_eq_true', Bool.not_eq_false', Bool.and_eq_true, Bool.or_eq_true, decide_eq_true_eq, decide_eq_false_iff_not, Bool.false_eq_true, Bool.true_eq_false, Option.bind_some, Option.some.injEq, false_iff, true_iff, iff_false, iff_true] at *; first | omega | grind)
   ·rw [if_neg e6] at hR
    have hL:∀ fl,V1 Zr obj bits level width off cnt 1 b s r w l d fl (2^bits.toNat) [] 0=some (Kh obj (b+off) (2^bits.toNat) bits r (if fl=true then width else 0) (if fl=true then level else 0) d cnt.toNat,0):=fun fl=>loop fl (by omega)
    have n5:=n5' (by omega)
    simp only [hL,Wy,hR,if_true,n5]
    have hfl:(cop .eql obj 3=true)=(obj=3):=by simp only [JN,J1,JV,JI,JJ,J0,JL,JK,JM,J3,JZ,JX,Bool.not_eq_true,Bool.not_eq_false,Bool.not_eq_true',Bool.not_eq_false',Bool.and_eq_true,Bool.or_eq_true,decide_eq_true_eq,decide_eq_false_iff_not,Bool.false_eq_true,Bool.true_eq_false,Option.bind_some,Option.some.injEq,false_iff,true_iff,iff_false,iff_true]
    simp only [hfl]
    repeat' (with_reducible refine JP (fun _=>?_) (fun _=>?_))
    all_goals first
     | rfl
     | (exfalso; simp only [JN, J1, JV, JI, JJ, J0, JL, JK, JM, J3, JZ, JX, Bool.not_eq_true, Bool.not_eq_false, Bool.not_eq_true', Bool.not_eq_false', Bool.and_eq_true, Bool.or_eq_true, decide_eq_true_eq, decide_eq_false_iff_not, Bool.false_eq_true, Bool.true_eq_false, Option.bind_some, Option.some.injEq, false_iff, true_iff, iff_false, iff_true] at *; first | omega | grind)
 ·repeat' (with_reducible refine JP (fun _=>?_) (fun _=>?_))
  all_goals first
   | exact ZiP (by decide) (by simp only [JN, J1, JV, JI, JJ, J0, JL, JK, JM, J3, JZ, JX, Bool.not_eq_true, Bool.not_eq_false, Bool.not_eq_true', Bool.not_eq_false', Bool.and_eq_true, Bool.or_eq_true, decide_eq_true_eq, decide_eq_false_iff_not, Bool.false_eq_true, Bool.true_eq_false, Option.bind_some, Option.some.injEq, false_iff, true_iff, iff_false, iff_true] at *; simp only [Zdp]; grind)
   | (exfalso; simp only [JN, J1, JV, JI, JJ, J0, JL, JK, JM, J3, JZ, JX, Bool.not_eq_true, Bool.not_eq_false, Bool.not_eq_true', Bool.not_eq_false', Bool.and_eq_true, Bool.or_eq_true, decide_eq_true_eq, decide_eq_false_iff_not, Bool.false_eq_true, Bool.true_eq_false, Option.bind_some, Option.some.injEq, false_iff, true_iff, iff_false, iff_true] at *; grind)
end Go.Proofs.YtjldbnbdcmfbmaaGreat
end

section
namespace Go.Proofs.YtjldbnbdcmfbmaaGreat
open Go Go.AM
set_option linter.unusedSimpArgs false
set_option linter.unusedVariables false
set_option maxRecDepth 100000
def Ret {α:Type} (P:α→Prop) (o:Option α):Prop:=∃ r,o=some r∧P r
theorem Zo {α:Type} {P:α→Prop} {a:α} (h:P a):Ret P (some a):=⟨a,rfl,h⟩
theorem Zd {α β:Type} {P:β→Prop} {Q:α→Prop} {o:Option α} {f:α→Option β} (h:Ret Q o) (k:∀ r,Q r→Ret P (f r)):Ret P (o.bind f):=by
 obtain ⟨r,rfl,hr⟩:=h
 exact k r hr
theorem Zp {α:Type} {P:α→Prop} {c:Prop} {_:Decidable c} {a b:Option α} (h1:c→Ret P a) (h2:¬ c→Ret P b):Ret P (if c then a else b):=by
 split
 ·exact h1 ‹_›
 ·exact h2 ‹_›
theorem Zu {α:Type} {P:α→Prop} {p:Prop} {_:Decidable p} {x:Option α} (h:p) (k:Ret P x):Ret P (ZE p x):=by
 rw [Zj h];exact k
theorem Zf {α:Type} {P:α→Prop} {a b:Option α} (h:a=b) (k:Ret P b):Ret P a:=h ▸ k
theorem ZkK {α:Type} {P Q:α→Prop} {o:Option α} (h:Ret P o) (k:∀ r,P r→Q r):Ret Q o:=by
 obtain ⟨r,e,hr⟩:=h
 exact ⟨r,e,k r hr⟩
theorem Yb {α β:Type} {P:β→Prop} {o:Option α} {a:α} {f:α→Option β} (h:o=some a) (k:Ret P (f a)):Ret P (o.bind f):=by
 subst h;exact k
theorem VL {σ γ:Type} {P:γ→Prop} {F:Nat→σ→Int→Option γ} {n:Nat} (J:Nat→σ→Prop) (hn:n < 2^63)
  (step:∀ (k i:Nat) (s:σ),i < n→J i s→(∀ s',J (i+1) s'→Ret P (F k s' ((i+1:Nat):Int)))→Ret P (F (k+1) s (i:Int)))
  (last:∀ (k:Nat) (s:σ),J n s→Ret P (F (k+1) s (n:Int))) (s:σ) (h:J 0 s):Ret P (F Zr s 0):=by
 have key:∀ (j i fuel:Nat) (s:σ),i+j=n→j < fuel→J i s→Ret P (F fuel s (i:Int)):=by
  intro j
  induction j with
  | zero =>
   intro i fuel s h hf hj
   obtain ⟨q,rfl⟩:∃ q,fuel=q+1:=⟨fuel-1,by omega⟩
   have:i=n:=by omega
   subst this
   exact last q s hj
  | succ j ih =>
   intro i fuel s h hf hj
   obtain ⟨q,rfl⟩:∃ q,fuel=q+1:=⟨fuel-1,by omega⟩
   exact step q i s (by omega) hj fun s' hs=>ih (i+1) q s' (by omega) (by omega) hs
 exact key n 0 Zr s (by omega) (by have:=J5 hn;omega) h
theorem place (x n:Int) (h1:1≤n) (h2:n < 2^62):Ret (fun r=>0≤r∧r < n) (g13 x n):=⟨_,s13 x n h1 h2,Int.emod_nonneg x (by omega),Int.emod_lt_of_pos x (by omega)⟩
theorem Zy (l:List Int) (z:Int):Ret (fun _=>True) (g21 (Za l) z):=by
 rw [Zrj]
 refine Zp (fun _=>Zo trivial) fun h1=>Zp (fun _=>Zo trivial) fun h2=>?_
 simp only [CQ,ZB] at h1 h2
 have e:z=((z.toNat:Nat):Int):=by omega
 have hl:z.toNat < l.length:=by omega
 have:=ZG (γ:=Int) hl (fun r=>some r)
 rw [← e] at this
 exact Zf this (Zo trivial)
theorem ZbQ {γ:Type} {P:γ→Prop} {l:List Int} {z:Int} {k:Int→Option γ} (h0:0≤z) (h:z.toNat < l.length) (hk:Ret P (k l[z.toNat])):Ret P (Zm (Za l) z [.int .i64] k):=by
 have e:z=((z.toNat:Nat):Int):=by omega
 have:=ZG h k
 rw [← e] at this
 exact Zf this hk
theorem KX {γ:Type} {P:γ→Prop} {l:List ZI} {z:Int} {k:ShsT ZcT→Option γ} (h0:0≤z) (h:z.toNat < l.length) (hk:Ret P (k (J8 l[z.toNat]))):Ret P (Zm (l.map Ze) z ZcT k):=by
 have e:z=((z.toNat:Nat):Int):=by omega
 have:=Zq h k
 rw [← e] at this
 exact Zf this hk
def ZoS (c:Cap):List AV:=[I c.kind,I c.base,I c.bits,I c.rights,I c.width,I c.level,B c.device]
abbrev Zmw:List Sh:=[.int .i64,.int .i64,.int .i64,.int .i64,.int .i64,.int .i64,.bool]
def ZuH (c:Cap):ShsT Zmw:=(c.kind,c.base,c.bits,c.rights,c.width,c.level,c.device)
theorem ZaH {γ:Type} {l:List Cap} {i:Nat} (h:i < l.length) (k:ShsT Zmw→Option γ):Zm (l.map ZoS) (i:Int) Zmw k=k (ZuH l[i]):=YI (fun _=>rfl) h k
def atP {α:Type} (q:α→Bool) (p:List α) (i:Nat):Bool:=match p[i]? with | some x=>q x | none=>false
theorem ZeI {α:Type} (q:α→Bool) {p:List α} {i:Nat} (h:i < p.length):atP q p i=q p[i]:=by unfold atP;rw [List.getElem?_eq_getElem h]
def idE (i:Id) (e:ZI):Bool:=decide (e.node.id=i)
def plE (c s:Int) (e:ZI):Bool:=decide (e.core=c)&&decide (e.slot=s)
theorem ZDf (l:List ZI) (hn:l.length < 2^63) (j:Id):ZyF (l.map Ze) j.core j.op j.part=some (Zjx l.length (Zfi (idE j) l)):=by
 rw [Zs0]
 exact ZhA (F:=fun k z=>Zeh k (l.map Ze) j.core j.op j.part z) (n:=l.length) (fun m=>Zjx l.length m) (atP (idE j) l) hn
  (fun k i hi=>by
   show Zeh (k+1) _ _ _ _ _=_
   rw [ZgV,List.length_map,if_pos (ZQ hi)]
   refine (Zq hi _).trans ?_
   simp only [J8,d2,d4,d8,d16]
   rw [ZN hi hn,ZeI _ hi,Zjw hi,idE]
   refine JP (fun h1=>?_) fun h1=>?_
   ·rw [if_pos (by rw [YB] at h1;rw [decide_eq_true_eq];exact h1)]
   ·rw [if_neg (by rw [YB] at h1;rw [decide_eq_true_eq];exact h1)])
  (fun k=>by
   show Zeh (k+1) _ _ _ _ _=_
   rw [ZgV,List.length_map,if_neg (ZT (Nat.le_refl _)),Zjx,if_neg (Nat.lt_irrefl _)]) (Zfi (idE j) l) (ZhK _ l) (fun i hi=>by
    have hl:=ZhK (idE j) l
    rw [ZeI _ (by omega)];exact ZjJ _ l i (by omega) hi) (fun h=>by rw [ZeI _ h];exact ZmJ _ l h)
theorem ZFl (l:List ZI) (hn:l.length < 2^63) (c s:Int):ZAW (l.map Ze) c s=some (Zjx l.length (Zfi (plE c s) l)):=by
 rw [Zsy]
 exact ZhA (F:=fun k z=>Zdx k (l.map Ze) c s z) (n:=l.length) (fun m=>Zjx l.length m) (atP (plE c s) l) hn
  (fun k i hi=>by
   show Zdx (k+1) _ _ _ _=_
   rw [Zh4,List.length_map,if_pos (ZQ hi)]
   refine (Zq hi _).trans ?_
   simp only [J8,d2,d4,d8,d16]
   rw [ZN hi hn,ZeI _ hi,Zjw hi,plE]
   refine JP (fun h1=>?_) fun h1=>?_
   ·simp only [CQ] at h1
    refine (Zq hi _).trans ?_
    simp only [J8,d2,d4,d8,d16]
    refine JP (fun h2=>?_) fun h2=>?_
    ·simp only [CQ] at h2
     rw [if_pos (by simp [h1,h2])]
    ·simp only [CQ] at h2
     rw [if_neg (by simp [h2])]
   ·simp only [CQ] at h1
    rw [if_neg (by simp [h1])])
  (fun k=>by
   show Zdx (k+1) _ _ _ _=_
   rw [Zh4,List.length_map,if_neg (ZT (Nat.le_refl _)),Zjx,if_neg (Nat.lt_irrefl _)]) (Zfi (plE c s) l) (ZhK _ l) (fun i hi=>by
    have hl:=ZhK (plE c s) l
    rw [ZeI _ (by omega)];exact ZjJ _ l i (by omega) hi) (fun h=>by rw [ZeI _ h];exact ZmJ _ l h)
structure Zus (l:List ZI):Prop where
 len:l.length≤100
 path:∀ e∈l,e.node.path.length≤20
theorem ZCV (l:List ZI) (h:Zus l):Zrk (l.map Ze)=some (l.map Ze):=by
 rw [Zsb]
 have hn:l.length < 2^63:=by have:=h.len;omega
 refine (Zso (F:=fun k acc i=>ZeZ k (l.map Ze) acc i) l (fun r=>[Ze r]) hn (fun k i hi=>?_) (fun k acc i hi=>?_)).trans (by rw [Zkk])
 ·show ZeZ (k+1) _ _ _=_
  rw [ZgD,List.length_map,if_pos (ZQ hi)]
  refine (Zq hi _).trans ?_
  simp only [J8,d2,d4,d8,d16]
  refine (Zq hi _).trans ?_
  refine (Zq hi _).trans ?_
  have hp:=h.path l[i] (List.getElem_mem hi)
  simp only [J8,d2,d4,d8,d16]
  rw [s25 l[i].node (by omega),Option.bind_some]
  refine (Zj (ZC ?_ (by omega)) _).trans ?_
  ·rw [Zkk]
   have:=h.len
   simp only [List.length_map,List.length_take,List.length_append,List.length_cons,List.length_nil]
   omega
  ·rw [ZN hi hn]
   rfl
 ·show ZeZ (k+1) _ _ _=_
  rw [ZgD,List.length_map,if_neg (ZT hi)]
def Zvs (l:List ZI) (x:ZI) (r:List ZI):Prop:=∃ i,i≤l.length∧(∀ j (h:j < l.length),j < i→lte x l[j]=false)∧(∀ h:i < l.length,lte x l[i]=true)∧l.any (idE x.node.id)=false∧l.any (plE x.core x.slot)=false∧r=l.take i++[x]++l.drop i
theorem Zrw {α:Type} (q:α→Bool) (l:List α) (h:¬ cop .geq (Zjx l.length (Zfi q l)) 0=true):l.any q=false:=by
 rw [ZjP,decide_eq_true_eq] at h
 rw [List.any_eq_false]
 intro x hx
 obtain ⟨i,hi,rfl⟩:=List.getElem_of_mem hx
 have:=ZjJ q l i hi (by omega)
 simp [this]
theorem Zn5 {l m:List ZI} (h:Zus l) (hs:∀ e∈m,e∈l) (hl:m.length≤l.length):Zus m:=⟨by have:=h.len;omega,fun e he=>h.path e (hs e he)⟩
theorem ZD2 (l:List ZI) (h:Zus l) (x:ZI) (hx:x.node.path.length≤20):Ret (fun r=>r=(E0,false)∨∃ m,Zvs l x m∧r=(m.map Ze,true)) (ZBe (l.map Ze) x.core x.slot x.node.id.core x.node.id.op x.node.id.part (Zb x.node.path) x.node.cap.kind x.node.cap.base x.node.cap.bits x.node.cap.rights x.node.cap.width x.node.cap.level x.node.cap.device):=by
 have hn:l.length < 2^63:=by have:=h.len;omega
 rw [ZrY,ZDf l hn x.node.id,Option.bind_some]
 refine Zp (fun _=>Zo (.inl rfl)) fun h1=>?_
 rw [ZFl l hn,Option.bind_some]
 refine Zp (fun _=>Zo (.inl rfl)) fun h2=>?_
 have n1:=Zrw _ _ h1
 have n2:=Zrw _ _ h2
 have ins:∀ (i:Nat),i≤l.length→(∀ j (h:j < l.length),j < i→lte x l[j]=false)→(∀ h:i < l.length,lte x l[i]=true)→Ret (fun r=>r=(E0,false)∨∃ m,Zvs l x m∧r=(m.map Ze,true)) (ZE ((0:Int)≤(i:Int))<|ZE ((i:Int)≤(List.length (l.map Ze):Int))<|
   (Zrk (List.take (Int.toNat (i:Int)) (l.map Ze))).bind fun (r29:LL)=>(g25 x.node.id.core x.node.id.op x.node.id.part (Zb x.node.path) x.node.cap.kind x.node.cap.base x.node.cap.bits x.node.cap.rights x.node.cap.width x.node.cap.level x.node.cap.device).bind fun r30=>
   ZE (Jw r29 (E0++[[I x.core,I x.slot,I r30.1,I r30.2.1,I r30.2.2.1,AV.slice false 3 r30.2.2.2.1,I r30.2.2.2.2.1,I r30.2.2.2.2.2.1,I r30.2.2.2.2.2.2.1,I r30.2.2.2.2.2.2.2.1,I r30.2.2.2.2.2.2.2.2.1,I r30.2.2.2.2.2.2.2.2.2.1,AV.val (.bool r30.2.2.2.2.2.2.2.2.2.2)]]) 120)<|
   ZE ((0:Int)≤(i:Int))<|ZE ((i:Int)≤(List.length (l.map Ze):Int))<|(Zrk (List.drop (Int.toNat (i:Int)) (l.map Ze))).bind fun (r41:LL)=>
   ZE (Jw (r29++(E0++[[I x.core,I x.slot,I r30.1,I r30.2.1,I r30.2.2.1,AV.slice false 3 r30.2.2.2.1,I r30.2.2.2.2.1,I r30.2.2.2.2.2.1,I r30.2.2.2.2.2.2.1,I r30.2.2.2.2.2.2.2.1,I r30.2.2.2.2.2.2.2.2.1,I r30.2.2.2.2.2.2.2.2.2.1,AV.val (.bool r30.2.2.2.2.2.2.2.2.2.2)]])) r41 120)<|
   some (((r29++(E0++[[I x.core,I x.slot,I r30.1,I r30.2.1,I r30.2.2.1,AV.slice false 3 r30.2.2.2.1,I r30.2.2.2.2.1,I r30.2.2.2.2.2.1,I r30.2.2.2.2.2.2.1,I r30.2.2.2.2.2.2.2.1,I r30.2.2.2.2.2.2.2.2.1,I r30.2.2.2.2.2.2.2.2.2.1,AV.val (.bool r30.2.2.2.2.2.2.2.2.2.2)]]))++r41),true)):=by
  intro i hi hlo hhi
  have hl:=h.len
  refine Zu (by omega) (Zu (by rw [List.length_map];omega) ?_)
  rw [Int.toNat_natCast,← List.map_take,← List.map_drop,ZCV _ (Zn5 h (fun e he=>List.mem_of_mem_take he) (by simp;omega)),Option.bind_some,s25 x.node (by omega),Option.bind_some]
  refine Zu (ZC (by simp;omega) (by omega)) (Zu (by omega) (Zu (by rw [List.length_map];omega) ?_))
  rw [ZCV _ (Zn5 h (fun e he=>List.mem_of_mem_drop he) (by simp)),Option.bind_some]
  refine Zu (ZC (by simp;omega) (by omega)) (Zo (.inr ⟨_,⟨i,hi,hlo,hhi,n1,n2,rfl⟩,?_⟩))
  simp [Ze,Zhg]
 refine VL (F:=fun k (_:Unit) z=>Zeo k (l.map Ze) x.core x.slot x.node.id.core x.node.id.op x.node.id.part (Zb x.node.path) x.node.cap.kind x.node.cap.base x.node.cap.bits x.node.cap.rights x.node.cap.width x.node.cap.level x.node.cap.device z) (n:=l.length) (fun i _=>∀ j (h:j < l.length),j < i→lte x l[j]=false) hn (fun k i _ hi hJ ih=>?_) (fun k _ hJ=>?_) () (fun j _ h0=>absurd h0 (Nat.not_lt_zero _))
 ·show Ret _ (Zeo (k+1) _ _ _ _ _ _ _ _ _ _ _ _ _ _ _)
  rw [ZgN,List.length_map,if_pos (ZQ hi)]
  refine Zf (Zq hi _) ?_
  simp only [J8,d2,d4,d8,d16]
  rw [s82,Option.bind_some]
  refine Zp (fun hc=>?_) fun hc=>?_
  ·rw [ZN hi hn]
   refine ih () fun j h1 h2=>?_
   by_cases hji:j < i
   ·exact hJ j h1 hji
   ·have:j=i:=by omega
    subst this
    rw [Bool.not_eq_true'] at hc
    exact hc
  ·have:=ins i (by omega) hJ fun _=>by rw [Bool.not_eq_true',Bool.not_eq_false] at hc;exact hc
   rw [List.length_map] at this
   exact this
 ·show Ret _ (Zeo (k+1) _ _ _ _ _ _ _ _ _ _ _ _ _ _ _)
  rw [ZgN,List.length_map,if_neg (ZT (Nat.le_refl _))]
  have:=ins l.length (Nat.le_refl _) hJ fun h=>absurd h (Nat.lt_irrefl _)
  rw [List.length_map] at this
  exact this
theorem s85 (l:List ZI) (h:Zus l) (x:ZI) (hx:x.node.path.length≤20):Ret (fun r=>∃ m,(m=l∨Zvs l x m)∧r=m.map Ze) (g85 (l.map Ze) x.core x.slot x.node.id.core x.node.id.op x.node.id.part (Zb x.node.path) x.node.cap.kind x.node.cap.base x.node.cap.bits x.node.cap.rights x.node.cap.width x.node.cap.level x.node.cap.device):=by
 rw [Zwr]
 refine Zd (ZD2 l h x hx) fun r hr=>?_
 rcases hr with rfl | ⟨m,hm,rfl⟩
 ·exact Zp (fun _=>Zo ⟨l,.inl rfl,rfl⟩) fun h=>absurd rfl h
 ·exact Zp (fun h=>absurd h (by simp)) fun _=>Zo ⟨m,.inr hm,rfl⟩
structure Zov (s:Yz) (i:Id) (c:Cap):Prop where
 src:ZD s=true
 id:Vw i=true
 cap:Ka c=true
 ne:i≠s.id
 fresh:s.path.contains i=false
 room:s.path.length < 8
def ZcD (s:Yz) (i:Id) (c:Cap):Yz:=⟨i,s.path++[s.id],c⟩
theorem s88 (s:Yz) (hs:s.path.length≤20) (i:Id) (c:Cap):Ret (fun r=>(∃ e:Int,e≠0∧r=(0,0,0,E0,0,0,0,0,0,0,false,e))∨(Zov s i c∧r=(i.core,i.op,i.part,Zb (s.path++[s.id]),c.kind,c.base,c.bits,c.rights,c.width,c.level,c.device,0)))
  (g88 s.id.core s.id.op s.id.part (Zb s.path) s.cap.kind s.cap.base s.cap.bits s.cap.rights s.cap.width s.cap.level s.cap.device i.core i.op i.part c.kind c.base c.bits c.rights c.width c.level c.device):=by
 rw [Zvr,s61 s (by omega),Option.bind_some]
 refine Zp (fun _=>Zo (.inl ⟨1,by omega,rfl⟩)) fun h1=>?_
 rw [ZuN,Option.bind_some]
 refine Zp (fun _=>Zo (.inl ⟨1,by omega,rfl⟩)) fun h2=>?_
 rw [Zzi,Option.bind_some]
 refine Zp (fun _=>Zo (.inl ⟨1,by omega,rfl⟩)) fun h3=>?_
 refine Zp (fun _=>Zo (.inl ⟨1,by omega,rfl⟩)) fun h4=>?_
 rw [YB] at h4
 rw [s78 s.path (by omega),Option.bind_some]
 refine Zp (fun _=>Zo (.inl ⟨1,by omega,rfl⟩)) fun h5=>?_
 refine Zp (fun _=>Zo (.inl ⟨9,by omega,rfl⟩)) fun h6=>?_
 rw [s76 s.path (by omega),Option.bind_some]
 refine Zu (ZC (by rw [ZJ];simp;omega) (by omega)) (Zo (.inr ⟨?_,?_⟩))
 ·simp only [Bool.not_eq_true',Bool.not_eq_false] at h1 h2 h3
  simp only [Bool.not_eq_true] at h5
  have h8:=Zi6 h1
  simp only [CQ,ZJ] at h6
  exact ⟨h1,h2,h3,h4,h5,by omega⟩
 ·simp [Zb,idc]
end Go.Proofs.YtjldbnbdcmfbmaaGreat
end

section
namespace Go.Proofs.YtjldbnbdcmfbmaaGreat
open Go Go.AM
set_option linter.unusedSimpArgs false
set_option linter.unusedVariables false
set_option maxRecDepth 100000
theorem Zwk {a b:Int} (h0:0≤b) (h1:b≤62) (h2:0≤a) (h3:a*2^b.toNat < 2^63):iop .shl .i64 a b=a*2^b.toNat:=by
 have hmin:min b.toNat IntKind.i64.bits=b.toNat:=by
  have:IntKind.i64.bits=64:=rfl
  omega
 simp only [iop,hmin]
 have hp:=Yu b.toNat
 have:0≤a*2^b.toNat:=Int.mul_nonneg h2 (by omega)
 rw [Zah (by omega) h3]
theorem ZEa (a b:Int):Ret (fun r=>∃ k q:Int,r=(q*2^k.toNat,k)∧6≤k∧k≤16∧0≤q∧q < 2^(16-k).toNat) (ZBi a b):=by
 rw [Zsz]
 refine Zd (place b 11 (by omega) (by omega)) fun x hx=>?_
 obtain ⟨k,hk⟩:∃ k,k=6+x:=⟨_,rfl⟩
 have e1:iop .add .i64 6 x=k:=by rw [JC (by omega) (by omega),hk]
 have e2:iop .sub .i64 16 k=16-k:=Ziq (by omega) (by omega)
 have w1:IntKind.wrap .u64 (16-k)=16-k:=Ys (by omega) (by omega)
 have w2:IntKind.wrap .u64 k=k:=Ys (by omega) (by omega)
 have hp:(2:Int)^(16-k).toNat < 2^62:=by
  have:=Znp (m:=(16-k).toNat) (n:=16) (by omega)
  have e:(2:Int)^16=65536:=by decide
  have e:(2:Int)^62=4611686018427387904:=by decide
  omega
 have hp1:=Yu (16-k).toNat
 rw [e1,e2,w1,w2,Zuo (by omega)]
 refine Zu (by omega) (Zd (place a _ (by omega) hp) fun q hq=>Zu (by omega) (Zo ⟨k,q,?_,by omega,by omega,hq.1,hq.2⟩))
 have hm:q*2^k.toNat < 2^63:=by
  have h1:q*2^k.toNat≤2^(16-k).toNat*2^k.toNat:=Int.mul_le_mul_of_nonneg_right (by omega) (by have:=Yu k.toNat;omega)
  rw [← Int.pow_add,show (16-k).toNat+k.toNat=16 by omega] at h1
  have e:(2:Int)^16=65536:=by decide
  have e:(2:Int)^63=9223372036854775808:=by decide
  omega
 rw [Zwk (by omega) (by omega) hq.1 hm]
theorem s83 (a b:Int):Ret (fun r=>∃ c:Cap,r=ZuH c∧Ka c=true) (g83 a b):=by
 rw [ZvK]
 refine Zd (ZEa a b) fun r ⟨k,q,hr,h1,h2,h3,h4⟩=>?_
 subst hr
 refine Zo ⟨⟨1,q*2^k.toNat,k,7,0,0,false⟩,rfl,?_⟩
 have hm:(q+1)*2^k.toNat≤65536:=by
  have h5:(q+1)*2^k.toNat≤2^(16-k).toNat*2^k.toNat:=Int.mul_le_mul_of_nonneg_right (by omega) (by have:=Yu k.toNat;omega)
  rw [← Int.pow_add,show (16-k).toNat+k.toNat=16 by omega] at h5
  have e:(2:Int)^16=65536:=by decide
  omega
 rw [Int.add_mul,Int.one_mul] at hm
 have h6:0≤q*2^k.toNat:=Int.mul_nonneg h3 (by have:=Yu k.toNat;omega)
 have h7:q*2^k.toNat % 2^k.toNat=0:=Int.mul_emod_left ..
 simp [Ka,VV,Vt,h6,h7]
 omega
theorem ZqE (c:Cap) (obj bits level width off cnt:Int):∃ cs:List Cap,Wy c obj bits level width off cnt=cs.map ZoS∧(cs.length:Int)≤max 0 cnt:=by
 unfold Wy
 split
 ·refine ⟨(List.range cnt.toNat).map fun (j:Nat)=>⟨obj,c.base+off+(j:Int)*2^bits.toNat,bits,c.rights,if obj=3 then width else 0,if obj=3 then level else 0,c.device⟩,?_,by simp;omega⟩
  rw [List.map_map];rfl
 ·exact ⟨[],rfl,by simp;omega⟩
theorem l84 (rec0:List V→Option Bool) (l:List ZI) (hn:l.length < 2^63) (cs:List Cap) (m i:Nat) (hi:i < cs.length) (ih':Ret (fun _=>True) (rec0 [.l (l.map Ze),.l (cs.map ZoS),.i (Zjx l.length m),.i (iop .add .i64 (i:Int) 1)])) :
  Ret (fun _=>True) (Zdd rec0 Zr (l.map Ze) (cs.map ZoS) (Zjx l.length m) (i:Int) 0):=by
 refine VL (P:=fun _=>True) (F:=fun k2 (_:Unit) z=>Zdd rec0 k2 (l.map Ze) (cs.map ZoS) (Zjx l.length m) (i:Int) z) (n:=l.length) (fun _ _=>True) hn (fun k2 t _ ht _ ih2=>?_) (fun k2 _ _=>?_) () trivial
 ·show Ret _ (Zdd _ (k2+1) _ _ _ _ _)
  rw [ZjO,List.length_map,if_pos (ZQ ht)]
  refine Zf (Zq ht _) ?_
  simp only [J8,d2,d4,d8,d16]
  have nxt:Ret (fun _=>True) (Zdd rec0 k2 (l.map Ze) (cs.map ZoS) (Zjx l.length m) (i:Int) (iop .add .i64 (t:Int) 1)):=by rw [ZN ht hn];exact ih2 () trivial
  refine Zp (fun h1=>?_) fun h1=>?_
  ·rw [ZjP,decide_eq_true_eq] at h1
   refine Zp (fun h2=>?_) fun h2=>?_
   ·rw [Zq4,Option.bind_some]
    refine Zf (congrArg (fun z=>Zm (l.map Ze) z _ _) (Zjw h1)) ?_
    refine Zf (Zq h1 _) ?_
    simp only [J8,d2,d4,d8,d16]
    rw [Zq4,Option.bind_some,ZFh,Option.bind_some,Option.bind_some]
    refine Zf (ZaH hi _) ?_
    simp only [ZuH]
    rw [Zq4,Option.bind_some,ZB0,Option.bind_some]
    exact Zp (fun _=>Zp (fun _=>Zo trivial) fun _=>nxt) fun _=>nxt
   ·rw [Zq4,Option.bind_some]
    refine Zf (ZaH hi _) ?_
    simp only [ZuH]
    rw [Zq4,Option.bind_some,ZB0,Option.bind_some]
    exact Zp (fun _=>Zo trivial) fun _=>nxt
  ·rw [Zq4,Option.bind_some]
   refine Zf (ZaH hi _) ?_
   simp only [ZuH]
   rw [Zq4,Option.bind_some,ZB0,Option.bind_some]
   exact Zp (fun _=>Zo trivial) fun _=>nxt
 ·show Ret _ (Zdd _ (k2+1) _ _ _ _ _)
  rw [ZjO,List.length_map,if_neg (ZT (Nat.le_refl _))]
  exact ih'
theorem s84 (l:List ZI) (hn:l.length < 2^63) (j:Id) (cs:List Cap) (hc:cs.length < 2^63):Ret (fun _=>True) (g84 (l.map Ze) j.core j.op j.part (cs.map ZoS)):=by
 rw [Zw9,ZDf l hn j,Option.bind_some]
 generalize hm:Zfi (idE j) l=m
 refine VL (F:=fun k (_:Unit) z=>Zop k (l.map Ze) (cs.map ZoS) (Zjx l.length m) z) (n:=cs.length) (fun _ _=>True) hc (fun k i _ hi _ ih=>?_) (fun k _ _=>?_) () trivial
 ·show Ret _ (Zop (k+1) _ _ _ _)
  rw [Zj3,List.length_map,if_pos (ZQ hi)]
  exact l84 _ l hn cs m i hi (by rw [ZN hi hc];exact ih () trivial)
 ·show Ret _ (Zop (k+1) _ _ _ _)
  rw [Zj3,List.length_map,if_neg (ZT (Nat.le_refl _))]
  exact Zo trivial
structure EOk (e:ZI):Prop where
 c0:0≤e.core
 c1:e.core < 4
 s0:0≤e.slot
 s1:e.slot < 16
 ic:e.node.id.core=e.core
 o1:1≤e.node.id.op
 o2:e.node.id.op≤40
 p0:0≤e.node.id.part
 p1:e.node.id.part < 3
 ok:ZD e.node=true
structure FOk (l:List ZI) (n:Nat):Prop where
 len:l.length≤n
 all:∀ e∈l,EOk e
 asc:l.Pairwise fun a b=>lte a b=true
theorem Yo {n:Yz} (h:ZD n=true):Vw n.id=true∧Ka n.cap=true∧n.path.length≤8∧(List.range n.path.length).all (Vg n)=true:=by
 simp only [ZD,Bool.and_eq_true,decide_eq_true_eq] at h
 exact ⟨h.1.1.1,h.1.1.2,h.1.2,h.2⟩
theorem FOk.few {l:List ZI} {n:Nat} (h:FOk l n) (hn:n≤100):Zus l:=⟨by have:=h.len;omega,fun e he=>by have:=(Yo (h.all e he).ok).2.2.1;omega⟩
theorem ZgR {a b:ZI} : lte a b=true↔(a.node.id.core < b.node.id.core∨(a.node.id.core=b.node.id.core∧(a.node.id.op < b.node.id.op∨(a.node.id.op=b.node.id.op∧a.node.id.part < b.node.id.part)))):=by simp [lte,ZuL,ZuG]
theorem Znq {a b c:ZI} (h1:lte a b=true) (h2:lte b c=true):lte a c=true:=by
 rw [ZgR] at *; omega
theorem Zmu {a b:ZI} (h:lte a b=false) (hne:a.node.id≠b.node.id):lte b a=true:=by
 rw [← Bool.not_eq_true,ZgR] at h
 rw [ZgR]
 have:¬ (a.node.id.core=b.node.id.core∧a.node.id.op=b.node.id.op∧a.node.id.part=b.node.id.part):=fun ⟨e1,e2,e3⟩=>hne (by cases ha:a.node.id;cases hb:b.node.id;simp_all)
 omega
theorem ZqR {l m:List ZI} {x:ZI} (h:l.Pairwise fun a b=>lte a b=true) (ha:Zvs l x m):m.Pairwise fun a b=>lte a b=true:=by
 obtain ⟨i,hi,hlo,hhi,hid,_,rfl⟩:=ha
 have hge:∀ j (hj:j < l.length),i≤j→lte x l[j]=true:=by
  intro j hj hij
  have h1:lte x (l[i]'(by omega))=true:=hhi (by omega)
  by_cases hji:j=i
  ·subst hji;exact h1
  ·exact Znq h1 (List.pairwise_iff_getElem.1 h i j (by omega) hj (by omega))
 rw [List.pairwise_append,List.pairwise_append]
 refine ⟨⟨h.take,List.pairwise_singleton ..,fun a ha b hb=>?_⟩,h.drop,fun a ha b hb=>?_⟩
 ·rw [List.mem_singleton] at hb
  subst hb
  obtain ⟨j,hj,rfl⟩:=List.getElem_of_mem ha
  rw [List.length_take] at hj
  rw [List.getElem_take]
  refine Zmu (hlo j (by omega) (by omega)) fun he=>?_
  rw [List.any_eq_false] at hid
  have:=hid _ (List.getElem_mem (show j < l.length by omega))
  rw [idE,decide_eq_true_eq] at this
  exact this he.symm
 ·obtain ⟨k,hk,rfl⟩:=List.getElem_of_mem hb
  rw [List.length_drop] at hk
  rw [List.getElem_drop]
  rw [List.mem_append,List.mem_singleton] at ha
  rcases ha with ha | rfl
  ·obtain ⟨j,hj,rfl⟩:=List.getElem_of_mem ha
   rw [List.length_take] at hj
   rw [List.getElem_take]
   exact List.pairwise_iff_getElem.1 h j (i+k) (by omega) (by omega) (by omega)
  ·exact hge (i+k) (by omega) (by omega)
theorem ZoI {l m:List ZI} {x:ZI} {n:Nat} (h:FOk l n) (hx:EOk x) (ha:m=l∨Zvs l x m):FOk m (n+1):=by
 rcases ha with rfl | ha
 ·exact ⟨by have:=h.len;omega,h.all,h.asc⟩
 ·have hasc:=ZqR h.asc ha
  obtain ⟨i,hi,_,_,_,_,rfl⟩:=ha
  refine ⟨by have:=h.len;simp;omega,fun e he=>?_,hasc⟩
  simp only [List.mem_append,List.mem_singleton] at he
  rcases he with (he | rfl) | he
  ·exact h.all e (List.mem_of_mem_take he)
  ·exact hx
  ·exact h.all e (List.mem_of_mem_drop he)
theorem Zow (i:Id) (c:Cap) (hi:Vw i=true) (hc:Ka c=true):ZD ⟨i,[],c⟩=true:=by simp [ZD,hi,hc]
theorem ZjR {s:Yz} {i:Id} {c:Cap} (h:Zov s i c):ZD (ZcD s i c)=true:=by
 obtain ⟨k1,k2,k3,k4⟩:=Yo h.src
 have hr:=h.room
 simp only [ZD,ZcD,Bool.and_eq_true,decide_eq_true_eq,h.id,h.cap,true_and,List.length_append,List.length_cons,List.length_nil]
 refine ⟨by omega,?_⟩
 rw [List.all_eq_true] at k4 ⊢
 intro j hj
 rw [List.mem_range] at hj
 by_cases hjl:j < s.path.length
 ·have:=k4 j (List.mem_range.2 hjl)
  simp only [Vg,List.getElem?_eq_getElem hjl] at this
  simp only [Vg,List.getElem?_append_left hjl,List.getElem?_eq_getElem hjl,List.take_append_of_le_length (Nat.le_of_lt hjl)]
  simp only [Bool.and_eq_true,decide_eq_true_eq] at this ⊢
  refine ⟨⟨this.1.1,fun he=>?_⟩,this.2⟩
  have hf:=h.fresh
  rw [← he] at hf
  simp at hf
 ·have hje:j=s.path.length:=by omega
  subst hje
  simp only [Vg,List.getElem?_append_right (Nat.le_refl _),Nat.sub_self,List.getElem?_cons_zero,List.take_left]
  simp only [Bool.and_eq_true,decide_eq_true_eq]
  refine ⟨⟨k1,fun he=>h.ne he.symm⟩,?_⟩
  rw [Bool.not_eq_true',← Bool.not_eq_true,List.contains_iff_mem]
  intro hm
  obtain ⟨t,ht,hte⟩:=List.getElem_of_mem hm
  have:=k4 t (List.mem_range.2 ht)
  simp only [Vg,List.getElem?_eq_getElem ht,hte] at this
  simp at this
theorem l31 (src:Yz) (hs:src.path.length≤20) (root:Bool) (op core slot:Int) (hc0:0≤core) (hc1:core < 4) (hs0:0≤slot) (hs1:slot < 8) (h1:1≤op) (h2:op≤40) (cs:List Cap) (hcs:cs.length≤3) (l:List ZI) (n:Nat) (hn:n≤60) (h:FOk l n) :
  Ret (fun r=>∃ m,FOk m (n+3)∧r=m.map Ze) (ZgL Zr (l.map Ze) op core slot src.id.core src.id.op src.id.part (Zb src.path) src.cap.kind src.cap.base src.cap.bits src.cap.rights src.cap.width src.cap.level src.cap.device (cs.map ZoS) 0):=by
 refine VL (F:=fun k (s:LL) z=>ZgL k s op core slot src.id.core src.id.op src.id.part (Zb src.path) src.cap.kind src.cap.base src.cap.bits src.cap.rights src.cap.width src.cap.level src.cap.device (cs.map ZoS) z) (n:=cs.length) (fun i s=>∃ m,FOk m (n+i)∧s=m.map Ze) (by omega) (fun k i s hi hj ih=>?_) (fun k s hj=>?_) _ ⟨l,h,rfl⟩
 ·obtain ⟨m,hm,rfl⟩:=hj
  show Ret _ (ZgL (k+1) _ _ _ _ _ _ _ _ _ _ _ _ _ _ _ _ _)
  rw [Zli,List.length_map,if_pos (ZQ hi)]
  refine Zf (ZaH hi _) ?_
  simp only [ZuH]
  refine Zd (s88 src hs ⟨core,op,(i:Int)⟩ cs[i]) fun r hr=>?_
  rcases hr with ⟨e,he,rfl⟩ | ⟨hk,rfl⟩
  ·refine Zp (fun _=>Zo ⟨m,⟨by have:=hm.len;omega,hm.all,hm.asc⟩,rfl⟩) fun hh=>?_
   simp only [CQ] at hh
   exact absurd hh (by omega)
  ·refine Zp (fun hh=>absurd hh (by simp [cop])) fun _=>?_
   have ho:=Yo (ZjR hk)
   have hx:EOk ⟨core,slot+i,ZcD src ⟨core,op,(i:Int)⟩ cs[i]⟩:=⟨hc0,hc1,by show 0≤slot+i;omega,by show slot+i < 16;omega,rfl,h1,h2,by show (0:Int)≤i;omega,by show (i:Int) < 3;omega,ZjR hk⟩
   have ea:iop .add .i64 slot (i:Int)=slot+i:=JC (by omega) (by omega)
   rw [ea]
   refine Zd (s85 m (hm.few (by omega)) ⟨core,slot+i,ZcD src ⟨core,op,(i:Int)⟩ cs[i]⟩ (by have:=ho.2.2.1;show (ZcD src ⟨core,op,(i:Int)⟩ cs[i]).path.length≤20;omega)) fun r ⟨m',hm',hr⟩=>?_
   subst hr
   rw [ZN hi (by omega)]
   exact ih _ ⟨m',ZoI hm hx hm',rfl⟩
 ·obtain ⟨m,hm,rfl⟩:=hj
  show Ret _ (ZgL (k+1) _ _ _ _ _ _ _ _ _ _ _ _ _ _ _ _ _)
  rw [Zli,List.length_map,if_neg (ZT (Nat.le_refl _))]
  exact Zo ⟨m,⟨by have:=hm.len;omega,hm.all,hm.asc⟩,rfl⟩
theorem ZC5 (l:List ZI) (n:Nat) (hn:n≤60) (h:FOk l n) (core slot op base bits:Int) (hc0:0≤core) (hc1:core < 4) (hs0:0≤slot) (hs1:slot < 8) (h1:1≤op) (h2:op≤40) :
    Ret (fun r=>∃ m,FOk m (n+3)∧r=m.map Ze) ((g83 base bits).bind fun r14=>
 (g84 (l.map Ze) 0 0 0 (E0++[[I r14.1,I r14.2.1,I r14.2.2.1,I r14.2.2.2.1,I r14.2.2.2.2.1,I r14.2.2.2.2.2.1,AV.val (.bool r14.2.2.2.2.2.2)]])).bind fun (r21:Bool)=>
 if r21=true then some (l.map Ze) else
 (g85 (l.map Ze) core slot core op 0 E0 r14.1 r14.2.1 r14.2.2.1 r14.2.2.2.1 r14.2.2.2.2.1 r14.2.2.2.2.2.1 r14.2.2.2.2.2.2).bind fun (r22:LL)=>some (r22)):=by
  refine Zd (s83 base bits) fun r ⟨c,hr,hc⟩=>?_
  subst hr
  have hl:=h.len
  refine Zd (s84 l (by omega) ⟨0,0,0⟩ [c] (by simp)) fun b _=>?_
  refine Zp (fun _=>Zo ⟨l,⟨by omega,h.all,h.asc⟩,rfl⟩) fun _=>?_
  have hi:Vw ⟨core,op,0⟩=true:=by simp [Vw];omega
  have hx:EOk ⟨core,slot,⟨⟨core,op,0⟩,[],c⟩⟩:=⟨hc0,hc1,hs0,by show slot < 16;omega,rfl,h1,h2,Int.le_refl _,by show (0:Int) < 3;omega,Zow _ _ hi hc⟩
  refine Zd (s85 l (h.few (by omega)) ⟨core,slot,⟨⟨core,op,0⟩,[],c⟩⟩ (by simp)) fun r ⟨m',hm',hr⟩=>?_
  subst hr
  have:=ZoI h hx hm'
  exact Zo ⟨m',⟨by have:=this.len;omega,this.all,this.asc⟩,rfl⟩
theorem s31 (l:List ZI) (n:Nat) (hn:n≤60) (h:FOk l n) (root copy:Bool) (src core slot kind base bits count rights op:Int) (h1:1≤op) (h2:op≤40) :
  Ret (fun r=>∃ m,FOk m (n+3)∧r=m.map Ze) (g31 (l.map Ze) root src core slot kind base bits count rights copy op):=by
 have hl:=h.len
 rw [Zv8]
 refine Zd (place core 4 (by omega) (by omega)) fun c hc=>Zd (place slot 8 (by omega) (by omega)) fun s hs=>?_
 refine Zp (fun _=>ZC5 l n hn h c s op base bits hc.1 hc.2 hs.1 hs.2 h1 h2) fun _=>?_
 refine Zp (fun _=>ZC5 l n hn h c s op base bits hc.1 hc.2 hs.1 hs.2 h1 h2) fun h3=>?_
 simp only [CQ,List.length_map] at h3
 rw [List.length_map]
 refine Zd (place src _ (by omega) (by omega)) fun i hi=>?_
 have hil:i.toNat < l.length:=by omega
 refine KX hi.1 hil ?_
 simp only [J8,d2,d4,d8,d16]
 have he:=h.all _ (List.getElem_mem hil)
 have ho:=Yo he.ok
 generalize l[i.toNat]=e at he ho
 refine Zd (place rights 8 (by omega) (by omega)) fun r28 _=>?_
 rw [s86,Option.bind_some]
 refine Zp (fun _=>?_) fun _=>?_
 ·refine Zd (place kind 6 (by omega) (by omega)) fun r36 h36=>Zd (place bits 10 (by omega) (by omega)) fun r37 h37=>?_
  have e1:iop .add .i64 6 r37=6+r37:=JC (by omega) (by omega)
  have e2:iop .sub .i64 (iop .add .i64 1 r36) 1=r36:=by rw [JC (by omega) (by omega),Ziq (by omega) (by omega)];omega
  rw [e1,e2]
  refine ZbQ (l:=[6+r37,12,12,6,10,16]) h36.1 (by simp;omega) ?_
  have hb:∀ x∈[6+r37,12,12,6,10,16],0≤x∧x≤16:=by
   intro x hx
   simp only [List.mem_cons,List.not_mem_nil,or_false] at hx
   omega
  have hb':=hb _ (List.getElem_mem (show r36.toNat < [6+r37,12,12,6,10,16].length by simp;omega))
  generalize [6+r37,12,12,6,10,16][r36.toNat]'(by simp;omega)=r38 at hb'
  refine Zd (place rights 2 (by omega) (by omega)) fun r39 _=>Zd (place base 8 (by omega) (by omega)) fun r40 _=>?_
  refine Zu (by rw [Ys (by omega) (by omega)];omega) (Zd (place count 3 (by omega) (by omega)) fun r41 h41=>?_)
  rw [s87,Option.bind_some]
  refine Zp (fun _=>Zo ⟨l,⟨by omega,h.all,h.asc⟩,rfl⟩) fun _=>?_
  obtain ⟨cs,hcs,hcl⟩:=ZqE ⟨e.node.cap.kind,e.node.cap.base,e.node.cap.bits,e.node.cap.rights,e.node.cap.width,e.node.cap.level,e.node.cap.device⟩ (iop .add .i64 1 r36) r38 r39 32 (iop .shl .i64 r40 (IntKind.wrap .u64 r38)) (iop .add .i64 1 r41)
  rw [hcs]
  have e3:iop .add .i64 1 r41=1+r41:=JC (by omega) (by omega)
  rw [e3] at hcl
  refine Zd (s84 l (by omega) e.node.id cs (by omega)) fun b _=>?_
  refine Zp (fun _=>Zo ⟨l,⟨by omega,h.all,h.asc⟩,rfl⟩) fun _=>?_
  exact l31 e.node (by omega) true op c s hc.1 hc.2 hs.1 hs.2 h1 h2 cs (by omega) l n hn h
 ·exact l31 e.node (by omega) true op c s hc.1 hc.2 hs.1 hs.2 h1 h2 [⟨e.node.cap.kind,e.node.cap.base,e.node.cap.bits,iop .and .i64 e.node.cap.rights r28,e.node.cap.width,e.node.cap.level,e.node.cap.device⟩] (by simp) l n hn h
def ZtK (s:Ztv):Bool×Int×Int×Int×Int×Int×Int×Int×Int×Bool:=(s.root,s.src,s.core,s.slot,s.kind,s.base,s.bits,s.count,s.rights,s.copy)
theorem ZlK {γ:Type} {l:List Ztv} {i:Nat} (h:i < l.length) (k:(Bool×Int×Int×Int×Int×Int×Int×Int×Int×Bool)→Option γ):Zm (l.map Zbz) (i:Int) [.bool,.int .i64,.int .i64,.int .i64,.int .i64,.int .i64,.int .i64,.int .i64,.int .i64,.bool] k=k (ZtK l[i]):=YI (f:=Zbz) (sh:=[.bool,.int .i64,.int .i64,.int .i64,.int .i64,.int .i64,.int .i64,.int .i64,.int .i64,.bool]) (v:=ZtK) (fun _=>rfl) h k
theorem s11 (l:List Ztv) (hn:l.length < 2^63):Ret (fun r=>∃ m,FOk m 30∧r=m.map Ze) (g11 (l.map Zbz)):=by
 rw [Zwj]
 have key:∀ (d i fuel:Nat) (m:List ZI),i+d=41→d < fuel→FOk m 30→Ret (fun r=>∃ m,FOk m 30∧r=m.map Ze) (ZpJ fuel (l.map Zbz) (m.map Ze) (i:Int)):=by
  intro d
  induction d with
  | zero =>
   intro i fuel m hi hf hm
   obtain ⟨q,rfl⟩:∃ q,fuel=q+1:=⟨fuel-1,by omega⟩
   rw [Zj7]
   refine Zp (fun _=>?_) fun _=>Zo ⟨m,hm,rfl⟩
   rw [if_neg (by simp only [CQ];omega)]
   exact Zo ⟨m,hm,rfl⟩
  | succ d ih =>
   intro i fuel m hi hf hm
   obtain ⟨q,rfl⟩:∃ q,fuel=q+1:=⟨fuel-1,by omega⟩
   rw [Zj7]
   refine Zp (fun h1=>?_) fun _=>Zo ⟨m,hm,rfl⟩
   refine Zp (fun h2=>?_) fun _=>Zo ⟨m,hm,rfl⟩
   refine Zp (fun h3=>?_) fun _=>Zo ⟨m,hm,rfl⟩
   simp only [CQ,List.length_map] at h1 h2 h3
   have hil:i < l.length:=by omega
   refine Zf (ZlK hil _) ?_
   simp only [ZtK]
   have e:iop .add .i64 (i:Int) 1=((i+1:Nat):Int):=ZN hil hn
   rw [e]
   refine Zd (s31 m 27 (by omega) ⟨by omega,hm.all,hm.asc⟩ _ _ _ _ _ _ _ _ _ _ _ (by omega) (by omega)) fun r ⟨m',hm',hr⟩=>?_
   subst hr
   exact ih (i+1) q m' (by omega) (by omega) hm'
 exact key 41 0 Zr [] rfl (by have:=@J5 41 (by omega);omega) ⟨by simp,by simp,List.Pairwise.nil⟩
end Go.Proofs.YtjldbnbdcmfbmaaGreat
end

section
namespace Go.Proofs.YtjldbnbdcmfbmaaGreat
open Go Go.AM
set_option linter.unusedSimpArgs false
set_option linter.unusedVariables false
set_option maxRecDepth 100000
structure SOk (l:List ZI) (s:List Kx):Prop where
 len:s.length=12
 spot:∀ t (h:t < s.length),s[t].op=0∧s[t].lock=zid∧(s[t].node=Jo∨∃ e∈l,e.slot=(t:Int)∧s[t].node=e.node)
theorem SOk.all {l:List ZI} {s:List Kx} (h:SOk l s):∀ x∈s,x.op=0∧x.lock=zid∧(x.node=Jo∨∃ e∈l,x.node=e.node):=by
 intro x hx
 obtain ⟨t,ht,rfl⟩:=List.getElem_of_mem hx
 obtain ⟨h1,h2,h3⟩:=h.spot t ht
 exact ⟨h1,h2,h3.imp id fun ⟨e,he,_,hn⟩=>⟨e,he,hn⟩⟩
theorem SOk.few {l:List ZI} {s:List Kx} {n:Nat} (h:SOk l s) (hf:FOk l n):ZDw s:=by
 refine ⟨by have:=h.len;omega,fun x hx=>?_⟩
 rcases (h.all x hx).2.2 with e | ⟨e,he,hne⟩
 ·rw [e];simp [Jo]
 ·have:=(Yo (hf.all e he).ok).2.2.1
  rw [hne];omega
theorem s80 (l:List ZI) (n:Nat) (hn:n≤60) (hf:FOk l n) (c:Int):Ret (fun r=>∃ s,SOk l s∧r=s.map Zg) (g80 (l.map Ze) c):=by
 have hl:=hf.len
 rw [Zxx]
 refine Zu (by decide) (Zu (by decide) (Zu (by decide) ?_))
 refine VL (F:=fun k (s:LL) z=>Zf9 k (l.map Ze) c s z) (n:=l.length) (fun i s=>∃ s',SOk l s'∧s=s'.map Zg) (by omega) (fun k i s hi hj ih=>?_) (fun k s hj=>?_) _ ⟨List.replicate 12 ⟨Jo,0,zid⟩,⟨rfl,fun t ht=>?_⟩,rfl⟩
 ·obtain ⟨s,hs,rfl⟩:=hj
  show Ret _ (Zf9 (k+1) _ _ _ _)
  rw [Zky,List.length_map,if_pos (ZQ hi)]
  refine Zf (Zq hi _) ?_
  simp only [J8,d2,d4,d8,d16]
  have nxt:Ret (fun r=>∃ s,SOk l s∧r=s.map Zg) (Zf9 k (l.map Ze) c (s.map Zg) (iop .add .i64 (i:Int) 1)):=by rw [ZN hi (by omega)];exact ih _ ⟨s,hs,rfl⟩
  refine Zp (fun _=>?_) fun _=>nxt
  refine Zf (Zq hi _) ?_
  simp only [J8,d2,d4,d8,d16]
  refine Zp (fun h1=>?_) fun _=>nxt
  simp only [CQ] at h1
  refine Zf (Zq hi _) ?_
  simp only [J8,d2,d4,d8,d16]
  refine Zf (Zq hi _) ?_
  simp only [J8,d2,d4,d8,d16]
  have he:=hf.all _ (List.getElem_mem hi)
  have hp:=(Yo he.ok).2.2.1
  rw [s25 l[i].node (by omega),Option.bind_some]
  have h0:=he.s0
  have hsl:=hs.len
  refine Zu (by omega) (Zu (by rw [List.length_map];omega) (Zu (by omega) (Zu (by rw [List.length_map];omega) ?_)))
  rw [ZN hi (by omega)]
  refine ih _ ⟨s.modify l[i].slot.toNat (ZA8 l[i].node),⟨by rw [List.length_modify];exact hsl,fun t ht=>?_⟩,Zo3 s _ l[i].node⟩
  rw [List.length_modify] at ht
  rw [List.getElem_modify]
  have ha:=hs.spot t ht
  split
  ·exact ⟨ha.1,ha.2.1,.inr ⟨l[i],List.getElem_mem hi,by omega,rfl⟩⟩
  ·exact ha
 ·obtain ⟨s,hs,rfl⟩:=hj
  show Ret _ (Zf9 (k+1) _ _ _ _)
  rw [Zky,List.length_map,if_neg (ZT (Nat.le_refl _))]
  exact Zo ⟨s,hs,rfl⟩
 ·rw [List.getElem_replicate]
  exact ⟨rfl,rfl,.inl rfl⟩
end Go.Proofs.YtjldbnbdcmfbmaaGreat
end

section
namespace Go.Proofs.YtjldbnbdcmfbmaaGreat
open Go Go.AM
set_option linter.unusedSimpArgs false
set_option linter.unusedVariables false
set_option maxRecDepth 100000
theorem ZfA {α:Type} (lt:α→α→Bool) (l:List α):KL lt l=true↔∀ j (h:j+1 < l.length),lt l[j] l[j+1]=true:=by
 rw [KL,List.all_eq_true]
 constructor
 ·intro h j hj
  have:=h (j+1) (by rw [List.mem_range'_1];omega)
  rw [Kv lt hj] at this
  exact this
 ·intro h i hi
  rw [List.mem_range'_1] at hi
  match i with
  | 0 => rfl
  | j + 1 => rw [Kv lt (by omega)]; exact h j (by omega)
theorem ZkM {α:Type} {lt:α→α→Bool} {l:List α} {a:α} (h:KL lt l=true) (ha:∀ h:0 < l.length,lt (l[l.length-1]'(by omega)) a=true):KL lt (l++[a])=true:=by
 rw [ZfA] at h ⊢
 intro j hj
 rw [List.length_append,List.length_cons,List.length_nil] at hj
 by_cases hjl:j+1 < l.length
 ·rw [List.getElem_append_left (by omega),List.getElem_append_left hjl]
  exact h j hjl
 ·have e:j=l.length-1:=by omega
  subst e
  rw [List.getElem_append_left (by omega),List.getElem_append_right (by omega)]
  have:=ha (by omega)
  simpa using this
theorem ZqW {α:Type} {lt:α→α→Bool} {l:List α} (h:l.Pairwise fun a b=>lt a b=true):KL lt l=true:=by
 rw [ZfA]
 intro j hj
 exact List.pairwise_iff_getElem.1 h j (j+1) (by omega) hj (by omega)
theorem KA {α:Type} (f:α→List AV) (l:List α) (a:α):l.map f++(E0++[f a])=(l++[a]).map f:=by simp
theorem YH {α:Type} {P:α→Prop} {l:List α} {a:α} (h:∀ x∈l,P x) (ha:P a):∀ x∈l++[a],P x:=by
 intro x hx
 simp only [List.mem_append,List.mem_singleton] at hx
 rcases hx with hx | rfl
 ·exact h x hx
 ·exact ha
theorem YF {σ γ:Type} {P:γ→Prop} {F:Nat→σ→Int→Option γ} (n:Nat) (J:Nat→σ→Prop) (hn:n < 1000)
  (step:∀ (k i:Nat) (s:σ),i≤n→J i s→(i < n→∀ s',J (i+1) s'→Ret P (F k s' ((i+1:Nat):Int)))→Ret P (F (k+1) s (i:Int))) (s:σ) (h:J 0 s):Ret P (F Zr s 0):=by
 refine VL (F:=F) (n:=n) J (by omega) (fun k i s hi hj ih=>step k i s (by omega) hj fun _=>ih) (fun k s hj=>step k n s (Nat.le_refl _) hj fun h=>absurd h (Nat.lt_irrefl _)) s h
theorem ZdZ {i n:Nat} (h:i≤n) (hn:n < 1000):iop .add .i64 (i:Int) 1=((i+1:Nat):Int):=by
 rw [JC (by omega) (by omega)];omega
def Rng (z:Int):Prop:=-(2^63:Int)≤z∧z < 2^63
def Yr (c:Call):List Int:=[c.kind,c.slot,c.dest,c.core,c.mask,c.object,c.bits,c.level,c.offset,c.count,c.index,c.addr]
def RL (l:List Int):Prop:=∀ x∈l,Rng x
def Ze0 (s:JW):Prop:=∀ q∈s.pending,∀ z∈Yr q.call,Rng z
theorem ZdV {z:Int} (h1:0≤z) (h2:z < 1000000):Rng z:=⟨by omega,by omega⟩
theorem ZnH (l:List Int) (z:Int):Ret (fun v=>RL l→Rng v) (g21 (Za l) z):=by
 rw [Zrj]
 refine Zp (fun _=>Zo fun _=>⟨by decide,by decide⟩) fun h1=>Zp (fun _=>Zo fun _=>⟨by decide,by decide⟩) fun h2=>?_
 simp only [CQ,ZB] at h1 h2
 have e:z=((z.toNat:Nat):Int):=by omega
 have hl:z.toNat < l.length:=by omega
 have:=ZG (γ:=Int) hl (fun r=>some r)
 rw [← e] at this
 exact Zf this (Zo fun h=>h _ (List.getElem_mem hl))
structure ZBG (i:Id):Prop where
 c0:0≤i.core
 c1:i.core < 4
 o0:1≤i.op
 o1:i.op≤20
 p:i.part=0
theorem ZBG.ok {i:Id} (h:ZBG i):Zbg i=true:=by
 obtain ⟨h1,h2,h3,h4,h5⟩:=h
 simp only [Zbg,Vw,Bool.and_eq_true,decide_eq_true_eq]
 omega
theorem s22 (x:Int):Ret (fun r=>∃ i:Id,r=(i.core,i.op,i.part)∧ZBG i) (g22 x):=by
 rw [ZuP]
 refine Zd (place x 4 (by omega) (by omega)) fun a ha=>Zu (by omega) (Zd (place _ 20 (by omega) (by omega)) fun b hb=>?_)
 have e:iop .add .i64 1 b=1+b:=JC (by omega) (by omega)
 rw [e]
 exact Zo ⟨⟨a,1+b,0⟩,rfl,⟨ha.1,ha.2,by show 1≤1+b;omega,by show 1+b≤20;omega,rfl⟩⟩
theorem s24 (l:List Int) (z:Int) (hz:0≤z):Ret (fun r=>∃ m:List Int,r=Za m∧m.length≤l.length∧(RL l→RL m)) (g24 (Za l) z):=by
 rw [Zvg,ZB]
 refine Zp (fun _=>Zo ⟨[],rfl,by simp,fun _ x hx=>by cases hx⟩) fun h=>?_
 simp only [CQ] at h
 refine Zu hz (Zu (by omega) (Zo ⟨l.drop z.toNat,?_,by simp,fun h x hx=>h x (List.mem_of_mem_drop hx)⟩))
 exact (List.map_drop ..).symm
theorem Zmh {γ:Type} {P:γ→Prop} {a b z:Int} {k:Int→Option γ} (h0:0≤z) (h:z < 2) (hk:∀ x,x=a∨x=b→Ret P (k x)):Ret P (Zm ((E0++[[I a]])++[[I b]]) z [.int .i64] k):=
 ZbQ (l:=[a,b]) h0 (by simp;omega) (hk _ (by rcases (by omega:z=0∨z=1) with rfl | rfl<;>simp))
theorem ZmG:Vk Jo Jo=true:=by kernel_rfl
theorem s23 (l:List Int) (n:Yz) (hn:ZD n=true) (hp:n.path.length≤20):Ret (fun r=>∃ q:Req,r=Zmk q∧(q.src.path.length≤20∧q.call.dest < 8)∧KC q=true∧(RL l→∀ z∈Yr q.call,Rng z)) (g23 (Za l) n.id.core n.id.op n.id.part (Zb n.path) n.cap.kind n.cap.base n.cap.bits n.cap.rights n.cap.width n.cap.level n.cap.device):=by
 rw [ZuZ]
 refine Zd (Zy l 0) fun _ _=>Zd (s22 _) fun r ⟨i,hi,hio⟩=>?_
 subst hi
 refine Zd (Zy l 1) fun _ _=>Zd (place _ 3 (by omega) (by omega)) fun rg hrg=>?_
 refine Zd (Zy l 2) fun _ _=>Zd (place _ 2 (by omega) (by omega)) fun _ h2=>?_
 refine Zmh h2.1 h2.2 fun w hw=>?_
 rw [s25 n (by omega),Option.bind_some]
 refine Zd (Zy l 3) fun _ _=>Zd (place _ 6 (by omega) (by omega)) fun kd hkd=>?_
 refine Zd (Zy l 4) fun _ _=>Zd (place _ 8 (by omega) (by omega)) fun v4 h4=>?_
 refine Zd (Zy l 5) fun _ _=>Zd (place _ 8 (by omega) (by omega)) fun v5 hde=>?_
 refine Zd (Zy l 6) fun _ _=>Zd (place _ 4 (by omega) (by omega)) fun v6 h6=>?_
 refine Zd (Zy l 7) fun _ _=>Zd (place _ 8 (by omega) (by omega)) fun v7 h7=>?_
 refine Zd (Zy l 8) fun _ _=>Zd (place _ 6 (by omega) (by omega)) fun v8 h8=>?_
 refine Zd (Zy l 9) fun _ _=>Zd (place _ 3 (by omega) (by omega)) fun v9 h9=>?_
 refine Zd (Zy l 10) fun _ _=>Zd (place _ 2 (by omega) (by omega)) fun v10 h10=>?_
 refine Zd (Zy l 11) fun _ _=>Zd (place _ 8 (by omega) (by omega)) fun v11 h11=>Zu (by omega) ?_
 refine Zd (Zy l 12) fun _ _=>Zd (place _ 3 (by omega) (by omega)) fun v12 h12=>?_
 refine Zd (ZnH l 13) fun v13 h13=>Zd (ZnH l 14) fun v14 h14=>?_
 have e8:iop .add .i64 1 v8=1+v8:=JC (by omega) (by omega)
 have e9:iop .add .i64 12 v9=12+v9:=JC (by omega) (by omega)
 have e12:iop .add .i64 1 v12=1+v12:=JC (by omega) (by omega)
 have e11:iop .shl .i64 v11 12=v11*4096:=Zwk (by omega) (by omega) (by omega) (by show v11*2^12 < 2^63;omega)
 rw [e8,e9,e11,e12]
 have hcall:RL l→∀ z∈Yr ⟨1+kd,v4,v5,v6,v7,1+v8,12+v9,v10,v11*4096,1+v12,v13,v14⟩,Rng z:=by
  intro hl z hz
  simp only [Yr,List.mem_cons,List.not_mem_nil,or_false] at hz
  rcases hz with rfl | rfl | rfl | rfl | rfl | rfl | rfl | rfl | rfl | rfl | rfl | rfl
  ·exact ZdV (by omega) (by omega)
  ·exact ZdV (by omega) (by omega)
  ·exact ZdV (by omega) (by omega)
  ·exact ZdV (by omega) (by omega)
  ·exact ZdV (by omega) (by omega)
  ·exact ZdV (by omega) (by omega)
  ·exact ZdV (by omega) (by omega)
  ·exact ZdV (by omega) (by omega)
  ·exact ZdV (by omega) (by omega)
  ·exact ZdV (by omega) (by omega)
  ·exact h13 hl
  ·exact h14 hl
 have ek:iop .add .i64 1 kd=1+kd:=JC (by omega) (by omega)
 rw [ek]
 have hr:Z5 rg=true:=by simp only [Z5,decide_eq_true_eq];omega
 refine Zp (fun h1=>Zo ⟨⟨i,⟨_,_,_,_,_,_,_,_,_,_,_,_⟩,_,_,Jo⟩,rfl,⟨by simp [Jo],hde.2⟩,?_,hcall⟩) fun h1=>Zo ⟨⟨i,⟨_,_,_,_,_,_,_,_,_,_,_,_⟩,_,_,n⟩,rfl,⟨hp,hde.2⟩,?_,hcall⟩
 ·simp only [CQ] at h1
  simp only [KC,hio.ok,hr,h1,ZmG,Bool.and_eq_true,decide_eq_true_eq,if_true,true_and,and_true]
  exact ⟨by omega,hw⟩
 ·simp only [CQ] at h1
  simp only [KC,hio.ok,hr,hn,if_neg h1,Bool.and_eq_true,decide_eq_true_eq,true_and,and_true]
  exact ⟨by omega,hw⟩
structure ZlV (f:List ZI) (ss:List Kx):Prop where
 len:ss.length=12
 spot:∀ t (h:t < ss.length),(0≤ss[t].op∧ss[t].op≤20)∧((ss[t].node=Jo∧ss[t].lock=zid)∨∃ e∈f,e.slot=(t:Int)∧ss[t].node=e.node∧(ss[t].lock=zid∨Zbg ss[t].lock=true))
theorem SOk.slIn {f:List ZI} {s:List Kx} (h:SOk f s):ZlV f s:=⟨h.len,fun t ht=>by
 obtain ⟨h1,h2,h3⟩:=h.spot t ht
 refine ⟨by omega,?_⟩
 rcases h3 with h3 | ⟨e,he,hs,hn⟩
 ·exact .inl ⟨h3,h2⟩
 ·exact .inr ⟨e,he,hs,hn,.inl h2⟩⟩
theorem Zwe {f:List ZI} {n:Nat} (hf:FOk f n) {a b:ZI} (ha:a∈f) (hb:b∈f) (h:a.node.id=b.node.id):a=b:=by
 obtain ⟨i,hi,rfl⟩:=List.getElem_of_mem ha
 obtain ⟨j,hj,rfl⟩:=List.getElem_of_mem hb
 have hp:=List.pairwise_iff_getElem.1 hf.asc
 by_cases hij:i < j
 ·have:=hp i j hi hj hij
  rw [ZgR,h] at this;omega
 ·by_cases hji:j < i
  ·have:=hp j i hj hi hji
   rw [ZgR,h] at this;omega
  ·have:i=j:=by omega
   subst this;rfl
theorem Zkx {f:List ZI} {n:Nat} (hf:FOk f n) {e:ZI} (he:e∈f):e.node.id≠zid:=by
 intro h
 have:=(hf.all e he).o1
 rw [h] at this
 exact absurd this (by decide)
theorem Zqg {f:List ZI} {n:Nat} {ss:List Kx} (hf:FOk f n) (h:ZlV f ss):Vi ss=true:=by
 have hl:=h.len
 rw [Vi,Bool.and_eq_true,decide_eq_true_eq,List.all_eq_true]
 refine ⟨by omega,fun i hi=>?_⟩
 rw [List.mem_range'_1] at hi
 have hil:i < ss.length:=by omega
 obtain ⟨ho,hn⟩:=h.spot i hil
 rw [Bool.and_eq_true,Ji _ hil]
 refine ⟨?_,?_⟩
 ·rw [Zbx,Bool.and_eq_true,decide_eq_true_eq]
  refine ⟨by omega,?_⟩
  rcases hn with ⟨e1,e2⟩ | ⟨e,he,_,e1,e2⟩
  ·rw [e1,e2,if_pos (show Jo.id=zid from rfl),ZmG];rfl
  ·rw [e1,if_neg (Zkx hf he),(hf.all e he).ok,Bool.true_and,Bool.or_eq_true,decide_eq_true_eq]
   exact e2
 ·unfold Vb
  rw [List.getElem?_eq_getElem hil]
  show (!((ss.take i).any (Zgi ss[i].node.id)))=true
  rw [Bool.not_eq_true',List.any_eq_false]
  intro x hx
  obtain ⟨j,hj,rfl⟩:=List.getElem_of_mem hx
  rw [List.length_take] at hj
  rw [List.getElem_take]
  have hji:j < i:=by omega
  obtain ⟨_,hm⟩:=h.spot j (by omega)
  rw [Zgi,Bool.not_eq_true,Bool.and_eq_false_iff]
  rcases hm with ⟨e1,_⟩ | ⟨e,he,hs,e1,_⟩
  ·left;rw [e1];rfl
  ·right
   rw [decide_eq_false_iff_not,e1]
   intro heq
   rcases hn with ⟨e3,_⟩ | ⟨e',he',hs',e3,_⟩
   ·rw [e3] at heq;exact Zkx hf he heq
   ·rw [e3] at heq
    have:=Zwe hf he he' heq
    subst this
    omega
structure StG (f:List ZI) (s:JW):Prop where
 slots:ZlV f s.slots
 ok:Yx s=true
 pend:s.pending.length≤3
 psrc:∀ q∈s.pending,q.src.path.length≤20∧q.call.dest < 8
 pok:∀ q∈s.pending,KC q=true
 marks:s.marks.length≤3
 answers:s.answers.length≤3
 entries:s.entries.length≤3
 epath:∀ e∈s.entries,e.node.path.length≤20
 commits:s.commits.length≤3
abbrev StT:=LL×LL×LL×LL×LL×LL
def stV (s:JW):StT:=(s.slots.map Zg,s.pending.map Zv,s.marks.map Zh,s.answers.map Zx,s.entries.map Ze,Zb s.commits)
def StR (f:List ZI) (l:List Int) (r:StT):Prop:=∃ s:JW,r=stV s∧StG f s∧(RL l→Ze0 s)
def ZDy (z:List Int) (l:List Req):Prop:=(RL z→∀ q∈l,∀ x∈Yr q.call,Rng x)∧l.length≤3∧(∀ q∈l,q.src.path.length≤20∧q.call.dest < 8)∧(∀ q∈l,KC q=true)∧KL ltp l=true
def ZBx (l:List Zcm):Prop:=l.length≤3∧(∀ q∈l,Y3 q=true)∧KL ltm l=true
def ZyO (l:List Ans):Prop:=l.length≤3∧(∀ q∈l,V0 q=true)∧KL lta l=true
def Zw4 (l:List ZI):Prop:=l.length≤3∧(∀ e∈l,e.node.path.length≤20)∧(∀ q∈l,VZ q=true)∧KL lte l=true
def ZwU (l:List Id):Prop:=l.length≤3∧∀ q∈l,Zbg q=true
theorem Zqt {l:List Int} {f:List ZI} {n:Nat} (hf:FOk f n) {ss:List Kx} (hs:ZlV f ss) {pe:List Req} (hp:ZDy l pe) {ma:List Zcm} (hm:ZBx ma) {an:List Ans} (ha:ZyO an) {en:List ZI} (he:Zw4 en) {co:List Id} (hc:ZwU co) :
  StR f l (ss.map Zg,pe.map Zv,ma.map Zh,an.map Zx,en.map Ze,Zb co):=by
 refine ⟨⟨ss,pe,ma,an,en,co⟩,rfl,⟨hs,?_,hp.2.1,hp.2.2.1,hp.2.2.2.1,hm.1,ha.1,he.1,he.2.1,hc.1⟩,hp.1⟩
 simp only [Yx,Zqg hf hs,List.all_eq_true.2 hp.2.2.2.1,hp.2.2.2.2,List.all_eq_true.2 hm.2.1,hm.2.2,List.all_eq_true.2 ha.2.1,ha.2.2,List.all_eq_true.2 he.2.2.1,he.2.2.2,List.all_eq_true.2 hc.2,Bool.and_self]
theorem Zxg {e:ZI} (h:EOk e):VZ e=true:=by
 obtain ⟨h1,h2,h3,h4,_,_,_,_,_,h5⟩:=h
 simp only [VZ,Zs,JB,h5,Bool.and_eq_true,decide_eq_true_eq,and_true]
 omega
theorem ZzT (l:List Int) (f:List ZI) (n:Nat) (hf:FOk f n) (hn:n≤60) (y2 y3 y4 y5 y6 y7 sl pe ma an:LL) (h:∀ en co,Zw4 en→ZwU co→StR f l (sl,pe,ma,an,en.map Ze,Zb co)) :
  Ret (StR f l) (ZlP Zr (Za l) (f.map Ze) y2 y3 y4 y5 y6 y7 sl pe ma an E0 E0 0):=by
 have hfl:=hf.len
 refine YF (F:=fun k (s:LL×LL) z=>ZlP k (Za l) (f.map Ze) y2 y3 y4 y5 y6 y7 sl pe ma an s.1 s.2 z) 3
  (fun i s=>∃ cs,s=(List.map Ze (f.take i),Zb cs)∧i≤f.length∧cs.length≤i∧∀ c∈cs,Zbg c=true) (by omega) (fun k i s hi hj ih=>?_) (E0,E0) ⟨[],by simp [Zb],by omega,by simp,by simp⟩
 obtain ⟨cs,rfl,h1,h2,h3⟩:=hj
 have out:Ret (StR f l) (some (sl,pe,ma,an,List.map Ze (f.take i),Zb cs)):=Zo (h _ _ ⟨by simp;omega,fun e he=>by have:=(Yo (hf.all e (List.mem_of_mem_take he)).ok).2.2.1;omega,fun e he=>Zxg (hf.all e (List.mem_of_mem_take he)),ZqW hf.asc.take⟩ ⟨by omega,h3⟩)
 show Ret _ (ZlP (k+1) _ _ _ _ _ _ _ _ _ _ _ _ _ _ _)
 rw [ZqX]
 refine Zd (Zy l _) fun _ _=>Zd (place _ 3 (by omega) (by omega)) fun r16 h16=>?_
 refine Zp (fun h4=>?_) fun _=>out
 refine Zp (fun h5=>?_) fun _=>out
 simp only [CQ,List.length_map] at h4 h5
 have hif:i < f.length:=by omega
 refine Zu (ZC (by simp;omega) (by omega)) ?_
 refine Zf (Zq hif _) ?_
 simp only [J8,d2,d4,d8,d16]
 refine Zu (ZC (by simp;omega) (by omega)) (Zu (ZC (by rw [ZJ];simp;omega) (by omega)) ?_)
 refine Zd (Zy l _) fun _ _=>Zd (s22 _) fun r ⟨c,hc,hco⟩=>?_
 subst hc
 refine Zu (ZC (by rw [ZJ];simp;omega) (by omega)) ?_
 rw [ZdZ hi (by omega)]
 refine ih (by omega) (List.map Ze (f.take i)++(E0++[Ze f[i]]),Zb cs++(E0++[idc c])) ⟨cs++[c],?_,by omega,by simp;omega,YH h3 hco.ok⟩
 have e1:f.take (i+1)=f.take i++[f[i]]:=by rw [List.take_add_one,List.getElem?_eq_getElem hif];rfl
 rw [e1,KA]
 simp [Zb]
theorem ZCk (l:List Int) (f:List ZI) (n:Nat) (hf:FOk f n) (hn:n≤60) (y2 y3 y4 y5 y6 y7 sl pe ma:LL) (h:∀ an en co,ZyO an→Zw4 en→ZwU co→StR f l (sl,pe,ma,an.map Zx,en.map Ze,Zb co)) :
  Ret (StR f l) (ZlN Zr (Za l) (f.map Ze) y2 y3 y4 y5 y6 y7 sl pe ma E0 E0 E0 0):=by
 refine YF (F:=fun k (s:LL) z=>ZlN k (Za l) (f.map Ze) y2 y3 y4 y5 y6 y7 sl pe ma s E0 E0 z) 3
  (fun i s=>∃ es:List Ans,s=List.map Zx es∧es.length=i∧(∀ j (h:j < es.length),es[j].op=((j+1:Nat):Int))∧∀ x∈es,V0 x=true) (by omega) (fun k i s hi hj ih=>?_) _ ⟨[],rfl,by simp,by simp,by simp⟩
 obtain ⟨es,rfl,h1,h2,h3⟩:=hj
 show Ret _ (ZlN (k+1) _ _ _ _ _ _ _ _ _ _ _ _ _ _ _)
 rw [ZpI]
 refine Zd (Zy l _) fun _ _=>Zd (place _ 3 (by omega) (by omega)) fun r16 h16=>?_
 refine Zp (fun h4=>?_) fun _=>ZzT l f n hf hn _ _ _ _ _ _ _ _ _ _ fun en co he hc=>h es en co ⟨by omega,h3,(ZfA ..).2 fun j hj=>by rw [lta,h2,h2,decide_eq_true_eq];omega⟩ he hc
 simp only [CQ] at h4
 refine Zu (ZC (by simp;omega) (by omega)) ?_
 refine Zd (Zy l _) fun _ _=>Zd (place _ 20 (by omega) (by omega)) fun v hv=>?_
 refine Zu (ZC (by simp;omega) (by omega)) ?_
 rw [ZdZ hi (by omega)]
 refine ih (by omega) _ ⟨es++[⟨((i+1:Nat):Int),v⟩],by rw [← KA];rfl,by simp;omega,fun j hj=>?_,YH h3 (by simp only [V0,Zb0,Bool.and_eq_true,decide_eq_true_eq];omega)⟩
 by_cases hjl:j < es.length
 ·rw [List.getElem_append_left hjl];exact h2 j hjl
 ·rw [List.getElem_append_right (by omega)]
  rw [List.length_append,List.length_cons,List.length_nil] at hj
  have:j=i:=by omega
  subst this
  simp
theorem Zz0 (l:List Int) (f:List ZI) (n:Nat) (hf:FOk f n) (hn:n≤60) (y2 y3 y4 y5 y6 y7 sl pe:LL) (h:∀ ma an en co,ZBx ma→ZyO an→Zw4 en→ZwU co→StR f l (sl,pe,ma.map Zh,an.map Zx,en.map Ze,Zb co)) :
  Ret (StR f l) (Zjz Zr (Za l) (f.map Ze) y2 y3 y4 y5 y6 y7 sl pe E0 E0 E0 E0 0):=by
 refine YF (F:=fun k (s:LL) z=>Zjz k (Za l) (f.map Ze) y2 y3 y4 y5 y6 y7 sl pe s E0 E0 E0 z) 3
  (fun i s=>∃ es:List Zcm,s=List.map Zh es∧es.length=i∧(∀ j (h:j < es.length),es[j].region=(j:Int))∧∀ x∈es,Y3 x=true) (by omega) (fun k i s hi hj ih=>?_) _ ⟨[],rfl,by simp,by simp,by simp⟩
 obtain ⟨es,rfl,h1,h2,h3⟩:=hj
 show Ret _ (Zjz (k+1) _ _ _ _ _ _ _ _ _ _ _ _ _ _ _)
 rw [Zo6]
 refine Zd (Zy l _) fun _ _=>Zd (place _ 3 (by omega) (by omega)) fun r16 h16=>?_
 refine Zp (fun h4=>?_) fun _=>ZCk l f n hf hn _ _ _ _ _ _ _ _ _ fun an en co ha he hc=>h es an en co ⟨by omega,h3,(ZfA ..).2 fun j hj=>by rw [ltm,h2,h2,decide_eq_true_eq];omega⟩ ha he hc
 simp only [CQ] at h4
 refine Zu (ZC (by simp;omega) (by omega)) ?_
 refine Zd (Zy l _) fun _ _=>Zd (s22 _) fun r ⟨c,hc,hco⟩=>?_
 subst hc
 refine Zu (ZC (by simp;omega) (by omega)) ?_
 rw [ZdZ hi (by omega)]
 refine ih (by omega) _ ⟨es++[⟨(i:Int),c⟩],by rw [← KA];rfl,by simp;omega,fun j hj=>?_,YH h3 (by simp only [Y3,Z5,hco.ok,Bool.and_eq_true,decide_eq_true_eq,and_true];omega)⟩
 by_cases hjl:j < es.length
 ·rw [List.getElem_append_left hjl];exact h2 j hjl
 ·rw [List.getElem_append_right (by omega)]
  rw [List.length_append,List.length_cons,List.length_nil] at hj
  have:j=i:=by omega
  subst this
  simp
theorem ZzX (l:List Int) (f:List ZI) (n:Nat) (hf:FOk f n) (hn:n≤60) (y2 y3 y4 y5 y6 y7 sl:LL) (h:∀ pe ma an en co,ZDy l pe→ZBx ma→ZyO an→Zw4 en→ZwU co→StR f l (sl,pe.map Zv,ma.map Zh,an.map Zx,en.map Ze,Zb co)) :
  Ret (StR f l) (ZfL Zr (Za l) (f.map Ze) y2 y3 y4 y5 y6 y7 sl E0 E0 E0 E0 E0 0):=by
 have hfl:=hf.len
 refine YF (F:=fun k (s:LL) z=>ZfL k (Za l) (f.map Ze) y2 y3 y4 y5 y6 y7 sl s E0 E0 E0 E0 z) 3
  (fun i s=>∃ es,s=List.map Zv es∧es.length≤i∧(∀ q∈es,q.src.path.length≤20∧q.call.dest < 8)∧(∀ q∈es,KC q=true)∧KL ltp es=true∧(RL l→∀ q∈es,∀ x∈Yr q.call,Rng x)) (by omega) (fun k i s hi hj ih=>?_) _ ⟨[],rfl,by simp,by simp,by simp,rfl,by simp⟩
 obtain ⟨es,rfl,h1,h3,h7,h8,h9⟩:=hj
 have out:=Zz0 l f n hf hn y2 y3 y4 y5 y6 y7 sl (List.map Zv es) fun ma an en co hm ha he hc=>h es ma an en co ⟨h9,by omega,h3,h7,h8⟩ hm ha he hc
 show Ret _ (ZfL (k+1) _ _ _ _ _ _ _ _ _ _ _ _ _ _ _)
 rw [Zo0]
 refine Zd (Zy l _) fun _ _=>Zd (place _ 3 (by omega) (by omega)) fun r16 h16=>?_
 refine Zp (fun h4=>?_) fun _=>out
 refine Zp (fun h5=>?_) fun _=>out
 simp only [CQ,List.length_map] at h4 h5
 have e13:iop .add .i64 13 (i:Int)=13+i:=JC (by omega) (by omega)
 rw [e13]
 refine Zd (s24 l _ (by omega)) fun r ⟨m,hr,_,hsub⟩=>?_
 subst hr
 rw [List.length_map]
 refine Zd (Zy l _) fun _ _=>Zd (place _ _ (by omega) (by omega)) fun r19 h19=>?_
 have hil:r19.toNat < f.length:=by omega
 refine KX h19.1 hil ?_
 simp only [J8,d2,d4,d8,d16]
 have hno:=(hf.all _ (List.getElem_mem hil)).ok
 have hp:=(Yo hno).2.2.1
 refine Zd (s23 m f[r19.toNat].node hno (by omega)) fun r ⟨q,hq,hqp,hqo,hqc⟩=>?_
 subst hq
 rw [ZdZ hi (by omega)]
 have room1:Jw E0 (List.map Zv es) 240:=ZC (by simp;omega) (by omega)
 have room2:Jw (List.map Zv es) (E0++[Zv q]) 240:=ZC (by simp;omega) (by omega)
 have nxt:i < 3→(∀ h:0 < es.length,ltp (es[es.length-1]'(by omega)) q=true)→Ret (StR f l) (ZfL k (Za l) (f.map Ze) y2 y3 y4 y5 y6 y7 sl (List.map Zv es++(E0++[Zv q])) E0 E0 E0 E0 ((i+1:Nat):Int)):=fun hi3 hlt=>ih hi3 _ ⟨es++[q],(KA ..),by simp;omega,YH h3 hqp,YH h7 hqo,ZkM h8 hlt,fun hl=>YH (h9 hl) (hqc (hsub hl))⟩
 refine Zp (fun h6=>Zu room1 (Zu room2 (nxt (by omega) fun h=>?_))) fun h6=>?_
 ·simp only [CQ,List.length_map] at h6
  omega
 simp only [CQ,List.length_map] at h6
 have e1:iop .sub .i64 (List.length (List.map Zv es):Int) 1=((es.length-1:Nat):Int):=by rw [List.length_map,Ziq (by omega) (by omega)];omega
 rw [e1]
 refine Zf (Jz (show es.length-1 < es.length by omega) _) ?_
 refine Zf (congrArg (fun o=>Option.bind o _) (s82 _ _ _ _ _ _)) ?_
 refine Zp (fun hlt=>Zu room1 (Zu room2 (nxt (by omega) fun _=>hlt))) fun _=>ih (by omega) _ ⟨es,rfl,by omega,h3,h7,h8,h9⟩
def Zp9 (b:Id) (s:Kx):Kx:={ s with lock:=b }
theorem ZxC (acc:List Kx) (i:Nat) (b:Id):Jc (acc.map Zg) i 12 [I b.core,I b.op,I b.part]=(acc.modify i (Zp9 b)).map Zg:=ZdK Zg (Zp9 b) acc i 12 _ fun _ _=>rfl
theorem ZlV.lockS {f:List ZI} {ss:List Kx} (h:ZlV f ss) (i:Nat) (hi:i < ss.length) (b:Id) (hb:Zbg b=true) (he:ZeM ss[i]=false):ZlV f (ss.modify i (Zp9 b)):=by
 refine ⟨by rw [List.length_modify];exact h.len,fun t ht=>?_⟩
 rw [List.length_modify] at ht
 rw [List.getElem_modify]
 obtain ⟨ho,hn⟩:=h.spot t ht
 split
 ·rename_i heq
  subst heq
  refine ⟨ho,?_⟩
  rcases hn with ⟨e1,_⟩ | ⟨e,he',hs,e1,_⟩
  ·rw [ZeM,e1] at he
   exact absurd he (by decide)
  ·exact .inr ⟨e,he',hs,e1,.inr hb⟩
 ·exact ⟨ho,hn⟩
theorem ZlV.opS {f:List ZI} {ss:List Kx} (h:ZlV f ss) (i:Nat) (g:Kx→Kx) (hg:∀ x,(g x).node=x.node∧(g x).lock=x.lock∧0≤(g x).op∧(g x).op≤20):ZlV f (ss.modify i g):=by
 refine ⟨by rw [List.length_modify];exact h.len,fun t ht=>?_⟩
 rw [List.length_modify] at ht
 rw [List.getElem_modify]
 obtain ⟨ho,hn⟩:=h.spot t ht
 split
 ·rw [(hg _).1,(hg _).2.1]
  exact ⟨(hg _).2.2,hn⟩
 ·exact ⟨ho,hn⟩
theorem ZBD (l:List Int) (f:List ZI) (n:Nat) (hf:FOk f n) (hn:n≤60) (y2 y3 y4 y5 y6 y7:LL) (ss:List Kx) (hss:ZlV f ss) :
  Ret (StR f l) (Zbl Zr (Za l) (f.map Ze) y2 y3 y4 y5 y6 y7 (ss.map Zg) E0 E0 E0 E0 E0 0):=by
 refine YF (F:=fun k (s:LL) z=>Zbl k (Za l) (f.map Ze) y2 y3 y4 y5 y6 y7 s E0 E0 E0 E0 E0 z) 12
  (fun i s=>∃ es,s=List.map Zg es∧ZlV f es) (by omega) (fun k i s hi hj ih=>?_) _ ⟨ss,rfl,hss⟩
 obtain ⟨es,rfl,h1⟩:=hj
 have hl:=h1.len
 show Ret _ (Zbl (k+1) _ _ _ _ _ _ _ _ _ _ _ _ _ _ _)
 rw [Zqc,List.length_map]
 refine Zp (fun h4=>?_) fun _=>ZzX l f n hf hn _ _ _ _ _ _ _ fun pe ma an en co hp hm ha he hc=>Zqt hf h1 hp hm ha he hc
 simp only [CQ] at h4
 have hi12:i < 12:=by omega
 have hie:i < es.length:=by omega
 rw [ZdZ hi (by omega)]
 have h0:(0:Int)≤(i:Int):=by omega
 have hlt:(i:Int) < (es.length:Int):=by omega
 -- what becomes of the reservation
 have part2:∀ es':List Kx,ZlV f es'→Ret (StR f l) ((g21 (Za l) (i:Int)).bind fun (r17:Int)=>(g13 r17 7).bind fun (r18:Int)=>if (cop .eql r18 6)=true then (g21 (Za l) (i:Int)).bind fun (r19:Int)=>ZE ((7:Int)≠0)<|(g13 (iop .quo .i64 r19 7) 20).bind fun (r20:Int)=>ZE ((0:Int)≤(i:Int))<|ZE ((i:Int) < (List.length (es'.map Zg):Int))<|ZE ((0:Int)≤(i:Int))<|ZE ((i:Int) < (List.length (es'.map Zg):Int))<|
   Zbl k (Za l) (f.map Ze) y2 y3 y4 y5 y6 y7 (Jc (es'.map Zg) (Int.toNat (i:Int)) 11 [AV.val (.int .i64 (iop .add .i64 1 r20))]) E0 E0 E0 E0 E0 ((i+1:Nat):Int)
   else Zbl k (Za l) (f.map Ze) y2 y3 y4 y5 y6 y7 (es'.map Zg) E0 E0 E0 E0 E0 ((i+1:Nat):Int)):=by
  intro es' he'
  have hl':=he'.len
  refine Zd (Zy l _) fun _ _=>Zd (place _ 7 (by omega) (by omega)) fun r18 _=>?_
  refine Zp (fun _=>?_) fun _=>ih hi12 _ ⟨es',rfl,he'⟩
  refine Zd (Zy l _) fun _ _=>Zu (by omega) (Zd (place _ 20 (by omega) (by omega)) fun r20 h20=>?_)
  rw [List.length_map]
  refine Zu h0 (Zu (by omega) (Zu h0 (Zu (by omega) ?_)))
  have e20:iop .add .i64 1 r20=1+r20:=JC (by omega) (by omega)
  rw [Int.toNat_natCast,e20,ZxN]
  exact ih hi12 _ ⟨_,rfl,he'.opS _ _ fun x=>⟨rfl,rfl,by show 0≤1+r20;omega,by show 1+r20≤20;omega⟩⟩
 refine Zd (Zy l _) fun _ _=>Zd (place _ 5 (by omega) (by omega)) fun r16 _=>?_
 refine Zp (fun _=>?_) fun _=>?_
 ·refine Zu h0 (Zu hlt ?_)
  refine Zf (Jl hie _) ?_
  simp only [Zbt,d2,d4,d8,d16]
  rw [s81,Option.bind_some]
  refine Zp (fun hne=>?_) fun _=>?_
  ·rw [Bool.not_eq_true'] at hne
   refine Zd (Zy l _) fun _ _=>Zu (by omega) (Zd (s22 _) fun r ⟨b,hb,hbo⟩=>?_)
   subst hb
   refine Zu h0 (Zu hlt (Zu h0 (Zu hlt ?_)))
   have:=part2 (es.modify i (Zp9 b)) (h1.lockS i hie b hbo.ok hne)
   rw [← ZxC,← Int.toNat_natCast i] at this
   exact this
  ·have:=part2 es h1
   rw [List.length_map] at this
   exact this
 ·have:=part2 es h1
  rw [List.length_map] at this
  exact this
theorem s30 (l:List Int) (f:List ZI) (n:Nat) (hf:FOk f n) (hn:n≤60) (c:Int):Ret (StR f l) (g30 (Za l) (f.map Ze) c):=by
 rw [ZwF]
 refine Zd (s80 f n hn hf c) fun r ⟨s,hs,hr⟩=>?_
 subst hr
 exact ZBD l f n hf hn _ _ _ _ _ _ s hs.slIn
theorem StG.few {f:List ZI} {n:Nat} (hf:FOk f n) {s:JW} (h:StG f s):ZDw s.slots:=by
 refine ⟨by have:=h.slots.len;omega,fun x hx=>?_⟩
 obtain ⟨t,ht,rfl⟩:=List.getElem_of_mem hx
 rcases (h.slots.spot t ht).2 with ⟨e,_⟩ | ⟨e,he,_,e1,_⟩
 ·rw [e];simp [Jo]
 ·rw [e1]
  have:=(Yo (hf.all e he).ok).2.2.1
  omega
end Go.Proofs.YtjldbnbdcmfbmaaGreat
end

section
namespace Go.Proofs.YtjldbnbdcmfbmaaGreat
open Go Go.AM
set_option linter.unusedSimpArgs false
set_option linter.unusedVariables false
set_option maxRecDepth 100000
theorem Jg {b:Bool} (h:b=false):¬ b=true:=by simp [h]
structure VwG (v:V7):Prop where
 ok:K2 v=true
 members:v.members.length≤4
 owners:v.owners.length≤4
theorem We {z:Int} (h:0≤z∧z < 4):Zs z=true:=by simp only [Zs,decide_eq_true_eq];omega
theorem s29 (l:List Int):Ret (fun r=>∃ v:V7,r=(v.number,Za v.members,Za v.owners)∧VwG v) (g29 (Za l)):=by
 rw [Zv9]
 refine Zd (Zy l _) fun _ _=>Zd (place _ 200 (by omega) (by omega)) fun num hnum=>?_
 have part0:∀ mem:List Int,mem.length≤4→(∀ x∈mem,Zs x=true)→(∀ i (h:i < mem.length),ZdT mem i=true)→Ret (fun r=>∃ v:V7,r=(v.number,Za v.members,Za v.owners)∧VwG v) (Zmf Zr (Za l) 0 E0 E0 num (Za mem) E0 0):=by
  intro mem hm1 hm2 hm3
  refine YF (F:=fun k (s:LL) z=>Zmf k (Za l) 0 E0 E0 num (Za mem) s z) 3 (fun i s=>∃ es:List Int,s=Za es∧es.length≤i∧∀ x∈es,Zs x=true) (by omega) (fun k i s hi hj ih=>?_) _ ⟨[],rfl,by simp,by simp⟩
  obtain ⟨es,rfl,h1,h2⟩:=hj
  show Ret _ (Zmf (k+1) _ _ _ _ _ _ _ _)
  rw [ZqH]
  refine Zd (Zy l _) fun _ _=>Zd (place _ 3 (by omega) (by omega)) fun r9 h9=>?_
  refine Zp (fun h4=>?_) fun _=>Zo ⟨⟨num,mem,es⟩,rfl,⟨?_,hm1,by show es.length≤4;omega⟩⟩
  ·simp only [CQ] at h4
   refine Zu (ZC (by simp [ZB];omega) (by omega)) ?_
   refine Zd (Zy l _) fun _ _=>Zd (place _ 4 (by omega) (by omega)) fun r11 h11=>?_
   refine Zu (ZC (by simp [Za];omega) (by omega)) ?_
   rw [ZdZ hi (by omega)]
   exact ih (by omega) _ ⟨es++[r11],(KA Wx es _),by simp;omega,YH h2 (We h11)⟩
  ·have a1:((List.range' 0 mem.length).all fun i=>atB Zs mem i&&ZdT mem i)=true:=by
    rw [List.all_eq_true]
    intro i hi
    rw [List.mem_range'_1] at hi
    have hil:i < mem.length:=by omega
    rw [Ji _ hil,hm2 _ (List.getElem_mem hil),hm3 i hil];rfl
   have a2:JA num=true:=by simp only [JA,decide_eq_true_eq];omega
   simp only [K2,a1,a2,List.all_eq_true.2 h2,Bool.and_true,Bool.true_and,Bool.and_eq_true,decide_eq_true_eq]
   omega
 refine YF (F:=fun k (s:LL) z=>ZlE k (Za l) 0 E0 E0 num s E0 z) 4 (fun i s=>∃ es:List Int,s=Za es∧es.length≤i∧(∀ x∈es,Zs x=true)∧∀ i (h:i < es.length),ZdT es i=true) (by omega) (fun k i s hi hj ih=>?_) _ ⟨[],rfl,by simp,by simp,by simp⟩
 obtain ⟨es,rfl,h1,h2,h3⟩:=hj
 show Ret _ (ZlE (k+1) _ _ _ _ _ _ _ _)
 rw [ZpU]
 refine Zd (Zy l _) fun _ _=>Zd (place _ 4 (by omega) (by omega)) fun r9 h9=>?_
 refine Zp (fun h4=>?_) fun _=>part0 es (by omega) h2 h3
 simp only [CQ] at h4
 refine Zd (Zy l _) fun _ _=>Zd (place _ 4 (by omega) (by omega)) fun r11 h11=>?_
 rw [s79 es (by omega),Option.bind_some,ZdZ hi (by omega)]
 refine Zp (fun h5=>?_) fun _=>ih (by omega) _ ⟨es,rfl,by omega,h2,h3⟩
 refine Zu (ZC (by simp [ZB];omega) (by omega)) ?_
 refine Zu (ZC (by simp [Za];omega) (by omega)) ?_
 refine ih (by omega) _ ⟨es++[r11],(KA Wx es _),by simp;omega,YH h2 (We h11),fun j hj=>?_⟩
 rw [List.length_append,List.length_cons,List.length_nil] at hj
 rw [Zka (by simpa using hj)]
 by_cases hjl:j < es.length
 ·have:=h3 j hjl
  rw [Zka hjl] at this
  rw [List.getElem_append_left hjl,List.take_append_of_le_length (by omega)]
  exact this
 ·have e:j=es.length:=by omega
  subst e
  rw [List.getElem_append_right (Nat.le_refl _),List.take_left]
  simpa using h5
theorem s27 (z:Int):Ret (fun r=>∃ cs:List Int,r=Za cs∧cs.length≤4∧Zdm cs=true) (g27 z):=by
 rw [ZuO]
 refine YF (F:=fun k (s:LL) i=>Zl6 k z s i) 4 (fun i s=>∃ es:List Int,s=Za es∧es.length≤i∧(∀ x∈es,0≤x∧x < (i:Int))∧KL ltI es=true) (by omega) (fun k i s hi hj ih=>?_) _ ⟨[],rfl,by simp,by simp,rfl⟩
 obtain ⟨es,rfl,h1,h2,h3⟩:=hj
 show Ret _ (Zl6 (k+1) _ _ _)
 rw [Zpb]
 refine Zp (fun h4=>?_) fun h4=>Zo ⟨es,rfl,by omega,?_⟩
 ·simp only [CQ] at h4
  have hw:IntKind.wrap .u64 (i:Int)=i:=Ys (by omega) (by omega)
  rw [hw]
  refine Zu (by omega) (Zd (place _ 2 (by omega) (by omega)) fun r3 _=>?_)
  rw [ZdZ hi (by omega)]
  refine Zp (fun _=>?_) fun _=>ih (by omega) _ ⟨es,rfl,by omega,fun x hx=>by have:=h2 x hx;omega,h3⟩
  refine Zu (ZC (by simp [Za];omega) (by omega)) (ih (by omega) _ ⟨es++[(i:Int)],(KA Wx es _),by simp;omega,fun x hx=>?_,ZkM h3 fun h=>?_⟩)
  ·rw [List.mem_append,List.mem_singleton] at hx
   rcases hx with hx | rfl
   ·have:=h2 x hx;omega
   ·omega
  ·have:=h2 _ (List.getElem_mem (show es.length-1 < es.length by omega))
   rw [ltI,decide_eq_true_eq];omega
 ·rw [Zdm,h3,Bool.and_true,List.all_eq_true]
  intro x hx
  have:=h2 x hx
  exact We ⟨by omega,by omega⟩
theorem s77 (a b c:Int):Ret (fun r=>∃ i:Id,r=(i.core,i.op,i.part)∧Vw i=true) (g77 a b c):=by
 rw [Zw2]
 refine Zd (place a 4 (by omega) (by omega)) fun x hx=>Zd (place b 12 (by omega) (by omega)) fun y hy=>Zd (place c 3 (by omega) (by omega)) fun z hz=>?_
 have e:iop .add .i64 1 y=1+y:=JC (by omega) (by omega)
 rw [e]
 exact Zo ⟨⟨x,1+y,z⟩,rfl,by simp only [Vw,decide_eq_true_eq];omega⟩
theorem s26 (l:List Int) (hn:l.length < 2^63):Ret (fun r=>∃ is:List Id,r=Zb is∧is.length≤8∧∀ i∈is,Vw i=true) (g26 (Za l)):=by
 rw [Zxk]
 refine VL (F:=fun k (s:LL) i=>Zju k (Za l) s i) (n:=l.length) (fun i s=>∃ es:List Id,s=Zb es∧es.length≤8∧∀ i∈es,Vw i=true) hn (fun k i s hi hj ih=>?_) (fun k s hj=>?_) _ ⟨[],rfl,by simp,by simp⟩
 ·obtain ⟨es,rfl,h1,h2⟩:=hj
  show Ret _ (Zju (k+1) _ _ _)
  rw [ZkO,ZB,ZJ,if_pos (ZQ hi)]
  refine Zp (fun h4=>?_) fun _=>Zo ⟨es,rfl,h1,h2⟩
  simp only [CQ] at h4
  refine Zf (ZG hi _) (Zf (ZG hi _) (Zu (by omega) (Zf (ZG hi _) (Zu (by omega) ?_))))
  refine Zd (s77 _ _ _) fun r ⟨x,hx,hxo⟩=>?_
  subst hx
  rw [s78 es (by omega),Option.bind_some,ZN hi hn]
  refine Zp (fun _=>?_) fun _=>ih _ ⟨es,rfl,h1,h2⟩
  exact Zu (ZC (by rw [ZJ];simp;omega) (by omega)) (ih _ ⟨es++[x],by simp [Zb,idc],by simp;omega,YH h2 hxo⟩)
 ·obtain ⟨es,rfl,h1,h2⟩:=hj
  show Ret _ (Zju (k+1) _ _ _)
  rw [ZkO,ZB,if_neg (ZT (Nat.le_refl _))]
  exact Zo ⟨es,rfl,h1,h2⟩
structure StS (s:JW):Prop where
 ok:Yx s=true
 slots:s.slots.length≤12
 spath:∀ x∈s.slots,x.node.path.length≤20
 pend:s.pending.length≤3
 psrc:∀ q∈s.pending,q.src.path.length≤20
 marks:s.marks.length≤3
 answers:s.answers.length≤3
 entries:s.entries.length≤3
 epath:∀ e∈s.entries,e.node.path.length≤20
 commits:s.commits.length≤3
theorem StG.short {f:List ZI} {n:Nat} (hf:FOk f n) {s:JW} (h:StG f s):StS s:=⟨h.ok,by have:=h.slots.len;omega,(h.few hf).path,h.pend,fun q hq=>(h.psrc q hq).1,h.marks,h.answers,h.entries,h.epath,h.commits⟩
theorem StS.fits {s:JW} (h:StS s):s.Fits:=by
 have h1:=h.slots;have h2:=h.pend;have h3:=h.marks;have h4:=h.answers;have h5:=h.entries;have h6:=h.commits
 exact ⟨by omega,by omega,by omega,by omega,by omega,by omega,fun x hx=>by have:=h.spath x hx;omega,fun x hx=>by have:=h.psrc x hx;omega,fun x hx=>by have:=h.epath x hx;omega⟩
theorem VI:StS Zl:=⟨by kernel_rfl,by simp [Zl],by simp [Zl],by simp [Zl],by simp [Zl],by simp [Zl],by simp [Zl],by simp [Zl],by simp [Zl],by simp [Zl]⟩
theorem VD:VwG ZH:=⟨by kernel_rfl,by simp [ZH],by simp [ZH]⟩
theorem VwG.fits {v:V7} (h:VwG v):v.Fits:=⟨by have:=h.members;omega,by have:=h.owners;omega⟩
def ZnT (r:JF):Prop:=Ze0 r.state∧Ze0 r.proposal
structure RpS (r:JF):Prop where
 core:Zs r.core=true
 view:VwG r.view
 state:StS r.state
 next:VwG r.next
 proposal:StS r.proposal
theorem RpS.ok {r:JF} (h:RpS r):Zfh r=true:=by simp only [Zfh,h.core,h.view.ok,h.state.ok,h.next.ok,h.proposal.ok,Bool.and_self]
theorem WL:RpS Zn:=⟨by kernel_rfl,VD,VI,VD,VI⟩
abbrev RpT:=Int×Int×LL×LL×LL×LL×LL×LL×LL×LL×Bool×Int×LL×LL×LL×LL×LL×LL×LL×LL
def rpV (r:JF):RpT:=(r.core,r.view.number,Za r.view.members,Za r.view.owners,r.state.slots.map Zg,r.state.pending.map Zv,r.state.marks.map Zh,r.state.answers.map Zx,r.state.entries.map Ze,Zb r.state.commits,r.ready,r.next.number,Za r.next.members,Za r.next.owners,r.proposal.slots.map Zg,r.proposal.pending.map Zv,r.proposal.marks.map Zh,r.proposal.answers.map Zx,r.proposal.entries.map Ze,Zb r.proposal.commits)
theorem JE:Ze0 Zl:=fun q hq=>by cases hq
theorem s28 (l:List Int) (f:List ZI) (n:Nat) (hf:FOk f n) (hn:n≤60):Ret (fun r=>∃ p:JF,r=rpV p∧RpS p∧(RL l→ZnT p)) (g28 (Za l) (f.map Ze)):=by
 rw [ZwS]
 refine Zd (Zy l _) fun _ _=>Zd (place _ 4 (by omega) (by omega)) fun c hc=>?_
 refine Zd (s24 l 1 (by omega)) fun r ⟨l1,hr,_⟩=>?_
 subst hr
 refine Zd (s29 l1) fun r ⟨v,hr,hv⟩=>?_
 subst hr
 refine Zd (s24 l 2 (by omega)) fun r ⟨l2,hr,_,q2⟩=>?_
 subst hr
 refine Zd (s30 l2 f n hf hn c) fun r ⟨s,hr,hs,hcs⟩=>?_
 subst hr
 refine Zd (Zy l _) fun _ _=>Zd (place _ 2 (by omega) (by omega)) fun _ _=>?_
 refine Zp (fun _=>?_) fun _=>Zo ⟨⟨c,v,s,false,ZH,Zl⟩,rfl,⟨We hc,hv,hs.short hf,VD,VI⟩,fun h=>⟨hcs (q2 h),JE⟩⟩
 refine Zd (s24 l 4 (by omega)) fun r ⟨l1,hr,_⟩=>?_
 subst hr
 refine Zd (s29 l1) fun r ⟨v2,hr,hv2⟩=>?_
 subst hr
 refine Zd (s24 l 5 (by omega)) fun r ⟨l2,hr,_,q3⟩=>?_
 subst hr
 refine Zd (s30 l2 f n hf hn c) fun r ⟨s2,hr,hs2,hcs2⟩=>?_
 subst hr
 exact Zo ⟨⟨c,v,s,true,v2,s2⟩,rfl,⟨We hc,hv,hs.short hf,hv2,hs2.short hf⟩,fun h=>⟨hcs (q2 h),hcs2 (q3 h)⟩⟩
def Zru (m:Msg):Prop:=(∀ z∈Yr m.req.call,Rng z)∧Ze0 m.state∧ZnT m.report
theorem Yw:∀ z∈Yr Ja.call,Rng z:=by
 intro z hz
 simp only [Yr,Ja,Zrq,List.mem_cons,List.not_mem_nil,or_false] at hz
 have:z=0:=by omega
 subst this
 exact ⟨by decide,by decide⟩
theorem Jf:ZnT Zn:=⟨JE,JE⟩
structure MsS (m:Msg):Prop where
 req:m.req.src.path.length≤20
 ids:m.ids.length≤8
 nodes:m.nodes.length≤3
 node:∀ x∈m.nodes,x.path.length≤20
 cores:m.cores.length≤4
 moves:m.moves.length≤3
 next:VwG m.next
 state:StS m.state
 report:RpS m.report
theorem RpS.fits {r:JF} (h:RpS r):r.Fits:=⟨h.view.fits,h.state.fits,h.next.fits,h.proposal.fits⟩
theorem MsS.fits {m:Msg} (h:MsS m):m.Fits:=⟨by have:=h.req;omega,by have:=h.ids;omega,by have:=h.nodes;omega,fun x hx=>by have:=h.node x hx;omega,by have:=h.cores;omega,by have:=h.moves;omega,h.next.fits,h.state.fits,h.report.fits⟩
theorem JY (m:Msg) (k:Nat) (hk:m.kind=(k:Int)) (h1:1≤k) (h2:k≤17) (hv:0≤m.view∧m.view < 70) (hf:0≤m.frm∧m.frm < 4) (ht:0≤m.to∧m.to < 4) (hfs:(kf k).all (Zi m)=true) (hr:rest k m=true):Jn m=true:=by
 have e1:kindOk m.kind=true:=by simp only [kindOk,decide_eq_true_eq];omega
 have e2:JA m.view=true:=by simp only [JA,decide_eq_true_eq];omega
 have e3:m.kind.toNat=k:=by omega
 simp only [Jn,headOk,e1,e2,We hf,We ht,e3,hfs,hr,Bool.and_self]
theorem ZCt (l:List Int) (f:List ZI) (n:Nat) (hf:FOk f n) (hn:n≤60) (m:Msg) :
  Ret (fun r=>∃ ns:List Yz,r=Zpo { m with nodes:=ns }∧ns.length≤3∧(∀ x∈ns,ZD x=true)∧∀ x∈ns,x.path.length≤20) (Zl1 Zr (Za l) (f.map Ze) 0 0 0 0 0 0 0 0 0 0 0 false 0 0 0 0 0 0 0 0 0 0 0 0 0 0 0 0 0 0 0 0 E0 0 0 0 0 0 0 false E0 E0 E0 E0 0 0 E0 E0 E0 E0 E0 E0 E0 E0 0 0 E0 E0 E0 E0 E0 E0 E0 E0 false 0 E0 E0 E0 E0 E0 E0 E0 E0 m.kind m.view m.frm m.to m.round m.region m.slot m.op.core m.op.op m.op.part m.err m.settled m.req.id.core m.req.id.op m.req.id.part m.req.call.kind m.req.call.slot m.req.call.dest m.req.call.core m.req.call.mask m.req.call.object m.req.call.bits m.req.call.level m.req.call.offset m.req.call.count m.req.call.index m.req.call.addr m.req.region m.req.width m.req.src.id.core m.req.src.id.op m.req.src.id.part (Zb m.req.src.path) m.req.src.cap.kind m.req.src.cap.base m.req.src.cap.bits m.req.src.cap.rights m.req.src.cap.width m.req.src.cap.level m.req.src.cap.device (Zb m.ids) E0 (Za m.cores) (m.moves.map ZU) m.base m.next.number (Za m.next.members) (Za m.next.owners) (m.state.slots.map Zg) (m.state.pending.map Zv) (m.state.marks.map Zh) (m.state.answers.map Zx) (m.state.entries.map Ze) (Zb m.state.commits) m.report.core m.report.view.number (Za m.report.view.members) (Za m.report.view.owners) (m.report.state.slots.map Zg) (m.report.state.pending.map Zv) (m.report.state.marks.map Zh) (m.report.state.answers.map Zx) (m.report.state.entries.map Ze) (Zb m.report.state.commits) m.report.ready m.report.next.number (Za m.report.next.members) (Za m.report.next.owners) (m.report.proposal.slots.map Zg) (m.report.proposal.pending.map Zv) (m.report.proposal.marks.map Zh) (m.report.proposal.answers.map Zx) (m.report.proposal.entries.map Ze) (Zb m.report.proposal.commits) 0):=by
 have hfl:=hf.len
 refine YF (F:=fun k (s:LL) z=>Zl1 k (Za l) (f.map Ze) 0 0 0 0 0 0 0 0 0 0 0 false 0 0 0 0 0 0 0 0 0 0 0 0 0 0 0 0 0 0 0 0 E0 0 0 0 0 0 0 false E0 E0 E0 E0 0 0 E0 E0 E0 E0 E0 E0 E0 E0 0 0 E0 E0 E0 E0 E0 E0 E0 E0 false 0 E0 E0 E0 E0 E0 E0 E0 E0 m.kind m.view m.frm m.to m.round m.region m.slot m.op.core m.op.op m.op.part m.err m.settled m.req.id.core m.req.id.op m.req.id.part m.req.call.kind m.req.call.slot m.req.call.dest m.req.call.core m.req.call.mask m.req.call.object m.req.call.bits m.req.call.level m.req.call.offset m.req.call.count m.req.call.index m.req.call.addr m.req.region m.req.width m.req.src.id.core m.req.src.id.op m.req.src.id.part (Zb m.req.src.path) m.req.src.cap.kind m.req.src.cap.base m.req.src.cap.bits m.req.src.cap.rights m.req.src.cap.width m.req.src.cap.level m.req.src.cap.device (Zb m.ids) s (Za m.cores) (m.moves.map ZU) m.base m.next.number (Za m.next.members) (Za m.next.owners) (m.state.slots.map Zg) (m.state.pending.map Zv) (m.state.marks.map Zh) (m.state.answers.map Zx) (m.state.entries.map Ze) (Zb m.state.commits) m.report.core m.report.view.number (Za m.report.view.members) (Za m.report.view.owners) (m.report.state.slots.map Zg) (m.report.state.pending.map Zv) (m.report.state.marks.map Zh) (m.report.state.answers.map Zx) (m.report.state.entries.map Ze) (Zb m.report.state.commits) m.report.ready m.report.next.number (Za m.report.next.members) (Za m.report.next.owners) (m.report.proposal.slots.map Zg) (m.report.proposal.pending.map Zv) (m.report.proposal.marks.map Zh) (m.report.proposal.answers.map Zx) (m.report.proposal.entries.map Ze) (Zb m.report.proposal.commits) z) 3 (fun i s=>∃ es:List Yz,s=es.map ZY∧es.length≤i∧(∀ x∈es,ZD x=true)∧∀ x∈es,x.path.length≤20) (by omega) (fun k i s hi hj ih=>?_) _ ⟨[],rfl,by simp,by simp,by simp⟩
 obtain ⟨es,rfl,h1,h2,h3⟩:=hj
 refine Zf (ZpG ..) ?_
 refine Zd (Zy l _) fun _ _=>Zd (place _ 3 (by omega) (by omega)) fun r16 h16=>?_
 refine Zp (fun h4=>?_) fun _=>Zo ⟨es,rfl,by omega,h2,h3⟩
 refine Zp (fun h5=>?_) fun _=>Zo ⟨es,rfl,by omega,h2,h3⟩
 simp only [CQ,List.length_map] at h4 h5
 have hif:i < f.length:=by omega
 refine Zu (ZC (by simp;omega) (by omega)) ?_
 refine Zf (Zq hif _) ?_
 have hno:=(hf.all _ (List.getElem_mem hif)).ok
 have hp:=(Yo hno).2.2.1
 refine Yb (s25 f[i].node (by omega)) ?_
 refine Zu (ZC (by simp;omega) (by omega)) ?_
 refine Zf (congrArg (fun z=>Zl1 k (Za l) (f.map Ze) 0 0 0 0 0 0 0 0 0 0 0 false 0 0 0 0 0 0 0 0 0 0 0 0 0 0 0 0 0 0 0 0 E0 0 0 0 0 0 0 false E0 E0 E0 E0 0 0 E0 E0 E0 E0 E0 E0 E0 E0 0 0 E0 E0 E0 E0 E0 E0 E0 E0 false 0 E0 E0 E0 E0 E0 E0 E0 E0 m.kind m.view m.frm m.to m.round m.region m.slot m.op.core m.op.op m.op.part m.err m.settled m.req.id.core m.req.id.op m.req.id.part m.req.call.kind m.req.call.slot m.req.call.dest m.req.call.core m.req.call.mask m.req.call.object m.req.call.bits m.req.call.level m.req.call.offset m.req.call.count m.req.call.index m.req.call.addr m.req.region m.req.width m.req.src.id.core m.req.src.id.op m.req.src.id.part (Zb m.req.src.path) m.req.src.cap.kind m.req.src.cap.base m.req.src.cap.bits m.req.src.cap.rights m.req.src.cap.width m.req.src.cap.level m.req.src.cap.device (Zb m.ids) (es.map ZY++(E0++[ZY f[i].node])) (Za m.cores) (m.moves.map ZU) m.base m.next.number (Za m.next.members) (Za m.next.owners) (m.state.slots.map Zg) (m.state.pending.map Zv) (m.state.marks.map Zh) (m.state.answers.map Zx) (m.state.entries.map Ze) (Zb m.state.commits) m.report.core m.report.view.number (Za m.report.view.members) (Za m.report.view.owners) (m.report.state.slots.map Zg) (m.report.state.pending.map Zv) (m.report.state.marks.map Zh) (m.report.state.answers.map Zx) (m.report.state.entries.map Ze) (Zb m.report.state.commits) m.report.ready m.report.next.number (Za m.report.next.members) (Za m.report.next.owners) (m.report.proposal.slots.map Zg) (m.report.proposal.pending.map Zv) (m.report.proposal.marks.map Zh) (m.report.proposal.answers.map Zx) (m.report.proposal.entries.map Ze) (Zb m.report.proposal.commits) z) (ZdZ hi (by omega))) ?_
 exact ih (by omega) _ ⟨es++[f[i].node],(KA ZY es f[i].node),by simp;omega,YH h2 hno,YH h3 (by omega)⟩
theorem ZA5 (l:List Int) (m:Msg) :
  Ret (fun r=>∃ ns:List ZeG,r=Zpo { m with moves:=ns }∧ns.length≤3∧(∀ x∈ns,K1 x=true)) (Zmb Zr (Za l) 0 0 0 0 0 0 0 0 0 0 0 false 0 0 0 0 0 0 0 0 0 0 0 0 0 0 0 0 0 0 0 0 E0 0 0 0 0 0 0 false E0 E0 E0 E0 0 0 E0 E0 E0 E0 E0 E0 E0 E0 0 0 E0 E0 E0 E0 E0 E0 E0 E0 false 0 E0 E0 E0 E0 E0 E0 E0 E0 m.kind m.view m.frm m.to m.round m.region m.slot m.op.core m.op.op m.op.part m.err m.settled m.req.id.core m.req.id.op m.req.id.part m.req.call.kind m.req.call.slot m.req.call.dest m.req.call.core m.req.call.mask m.req.call.object m.req.call.bits m.req.call.level m.req.call.offset m.req.call.count m.req.call.index m.req.call.addr m.req.region m.req.width m.req.src.id.core m.req.src.id.op m.req.src.id.part (Zb m.req.src.path) m.req.src.cap.kind m.req.src.cap.base m.req.src.cap.bits m.req.src.cap.rights m.req.src.cap.width m.req.src.cap.level m.req.src.cap.device (Zb m.ids) (m.nodes.map ZY) (Za m.cores) E0 m.base m.next.number (Za m.next.members) (Za m.next.owners) (m.state.slots.map Zg) (m.state.pending.map Zv) (m.state.marks.map Zh) (m.state.answers.map Zx) (m.state.entries.map Ze) (Zb m.state.commits) m.report.core m.report.view.number (Za m.report.view.members) (Za m.report.view.owners) (m.report.state.slots.map Zg) (m.report.state.pending.map Zv) (m.report.state.marks.map Zh) (m.report.state.answers.map Zx) (m.report.state.entries.map Ze) (Zb m.report.state.commits) m.report.ready m.report.next.number (Za m.report.next.members) (Za m.report.next.owners) (m.report.proposal.slots.map Zg) (m.report.proposal.pending.map Zv) (m.report.proposal.marks.map Zh) (m.report.proposal.answers.map Zx) (m.report.proposal.entries.map Ze) (Zb m.report.proposal.commits) 0):=by
 refine YF (F:=fun k (s:LL) z=>Zmb k (Za l) 0 0 0 0 0 0 0 0 0 0 0 false 0 0 0 0 0 0 0 0 0 0 0 0 0 0 0 0 0 0 0 0 E0 0 0 0 0 0 0 false E0 E0 E0 E0 0 0 E0 E0 E0 E0 E0 E0 E0 E0 0 0 E0 E0 E0 E0 E0 E0 E0 E0 false 0 E0 E0 E0 E0 E0 E0 E0 E0 m.kind m.view m.frm m.to m.round m.region m.slot m.op.core m.op.op m.op.part m.err m.settled m.req.id.core m.req.id.op m.req.id.part m.req.call.kind m.req.call.slot m.req.call.dest m.req.call.core m.req.call.mask m.req.call.object m.req.call.bits m.req.call.level m.req.call.offset m.req.call.count m.req.call.index m.req.call.addr m.req.region m.req.width m.req.src.id.core m.req.src.id.op m.req.src.id.part (Zb m.req.src.path) m.req.src.cap.kind m.req.src.cap.base m.req.src.cap.bits m.req.src.cap.rights m.req.src.cap.width m.req.src.cap.level m.req.src.cap.device (Zb m.ids) (m.nodes.map ZY) (Za m.cores) s m.base m.next.number (Za m.next.members) (Za m.next.owners) (m.state.slots.map Zg) (m.state.pending.map Zv) (m.state.marks.map Zh) (m.state.answers.map Zx) (m.state.entries.map Ze) (Zb m.state.commits) m.report.core m.report.view.number (Za m.report.view.members) (Za m.report.view.owners) (m.report.state.slots.map Zg) (m.report.state.pending.map Zv) (m.report.state.marks.map Zh) (m.report.state.answers.map Zx) (m.report.state.entries.map Ze) (Zb m.report.state.commits) m.report.ready m.report.next.number (Za m.report.next.members) (Za m.report.next.owners) (m.report.proposal.slots.map Zg) (m.report.proposal.pending.map Zv) (m.report.proposal.marks.map Zh) (m.report.proposal.answers.map Zx) (m.report.proposal.entries.map Ze) (Zb m.report.proposal.commits) z) 3 (fun i s=>∃ es:List ZeG,s=es.map ZU∧es.length≤i∧(∀ x∈es,K1 x=true)) (by omega) (fun k i s hi hj ih=>?_) _ ⟨[],rfl,by simp,by simp⟩
 obtain ⟨es,rfl,h1,h2⟩:=hj
 refine Zf (ZqY ..) ?_
 refine Zd (Zy l _) fun _ _=>Zd (place _ 3 (by omega) (by omega)) fun r16 h16=>?_
 refine Zp (fun h4=>?_) fun _=>Zo ⟨es,rfl,by omega,h2⟩
 simp only [CQ] at h4
 refine Zu (ZC (by simp;omega) (by omega)) ?_
 refine Zd (Zy l _) fun _ _=>Zd (place _ 3 (by omega) (by omega)) fun a ha=>?_
 refine Zd (Zy l _) fun _ _=>Zd (place _ 4 (by omega) (by omega)) fun b hb=>?_
 refine Zu (ZC (by simp;omega) (by omega)) ?_
 refine Zf (congrArg (fun z=>Zmb k (Za l) 0 0 0 0 0 0 0 0 0 0 0 false 0 0 0 0 0 0 0 0 0 0 0 0 0 0 0 0 0 0 0 0 E0 0 0 0 0 0 0 false E0 E0 E0 E0 0 0 E0 E0 E0 E0 E0 E0 E0 E0 0 0 E0 E0 E0 E0 E0 E0 E0 E0 false 0 E0 E0 E0 E0 E0 E0 E0 E0 m.kind m.view m.frm m.to m.round m.region m.slot m.op.core m.op.op m.op.part m.err m.settled m.req.id.core m.req.id.op m.req.id.part m.req.call.kind m.req.call.slot m.req.call.dest m.req.call.core m.req.call.mask m.req.call.object m.req.call.bits m.req.call.level m.req.call.offset m.req.call.count m.req.call.index m.req.call.addr m.req.region m.req.width m.req.src.id.core m.req.src.id.op m.req.src.id.part (Zb m.req.src.path) m.req.src.cap.kind m.req.src.cap.base m.req.src.cap.bits m.req.src.cap.rights m.req.src.cap.width m.req.src.cap.level m.req.src.cap.device (Zb m.ids) (m.nodes.map ZY) (Za m.cores) (es.map ZU++(E0++[ZU ⟨a,b⟩])) m.base m.next.number (Za m.next.members) (Za m.next.owners) (m.state.slots.map Zg) (m.state.pending.map Zv) (m.state.marks.map Zh) (m.state.answers.map Zx) (m.state.entries.map Ze) (Zb m.state.commits) m.report.core m.report.view.number (Za m.report.view.members) (Za m.report.view.owners) (m.report.state.slots.map Zg) (m.report.state.pending.map Zv) (m.report.state.marks.map Zh) (m.report.state.answers.map Zx) (m.report.state.entries.map Ze) (Zb m.report.state.commits) m.report.ready m.report.next.number (Za m.report.next.members) (Za m.report.next.owners) (m.report.proposal.slots.map Zg) (m.report.proposal.pending.map Zv) (m.report.proposal.marks.map Zh) (m.report.proposal.answers.map Zx) (m.report.proposal.entries.map Ze) (Zb m.report.proposal.commits) z) (ZdZ hi (by omega))) ?_
 refine ih (by omega) _ ⟨es++[⟨a,b⟩],(KA ZU es ⟨a,b⟩),by simp;omega,YH h2 ?_⟩
 simp only [K1,We hb,Z5,Bool.and_true,decide_eq_true_eq]
 omega
theorem s10 (kind:Int) (l:List Int) (hl:l.length < 2^63) (f:List ZI) (n:Nat) (hf:FOk f n) (hn:n≤60):Ret (fun r=>∃ m:Msg,r=Zpo m∧Jn m=true∧MsS m∧(RL l→Zru m)) (g10 kind (Za l) (f.map Ze)):=by
 rw [ZxW]
 unfold m10
 refine Zd (place _ 17 (by omega) (by omega)) fun r3 h3=>?_
 obtain ⟨kd,hkd⟩:∃ kd,kd=1+r3:=⟨_,rfl⟩
 have ek:iop .add .i64 1 r3=kd:=by rw [JC (by omega) (by omega),hkd]
 rw [ek]
 refine Zd (Zy l _) fun _ _=>Zd (place _ 70 (by omega) (by omega)) fun v hv=>?_
 refine Zd (Zy l _) fun _ _=>Zd (place _ 4 (by omega) (by omega)) fun fr hfr=>?_
 refine Zd (Zy l _) fun _ _=>Zd (place _ 4 (by omega) (by omega)) fun to hto=>?_
 refine Zd (Zy l _) fun _ _=>Zd (s22 _) fun r ⟨i,hr,hio⟩=>?_
 subst hr
 have hfl:=hf.len
 refine Zp (fun h4=>?caA) fun _=>?caB
 case' caA=>
  simp only [CQ,List.length_map] at h4
  rw [List.length_map]
  refine Zd (Zy l _) fun _ _=>Zd (place _ _ (by omega) (by omega)) fun z hz=>?_
  have hzl:z.toNat < f.length:=by omega
  refine KX hz.1 hzl ?_
  have hn0:=(hf.all _ (List.getElem_mem hzl)).ok
  generalize f[z.toNat]=e at hn0
  let nd:Yz:=e.node
  have hno:ZD nd=true:=hn0
 case' caB=>
  let nd:Yz:=⟨i,[],⟨2,4096,12,3,0,0,false⟩⟩
  have hno:ZD nd=true:=Zow _ _ (by have:=hio.ok;rw [Zbg,Bool.and_eq_true] at this;exact this.1) (by kernel_rfl)
 all_goals
  have hpa:nd.path.length≤20:=by have:=(Yo hno).2.2.1;omega
  have hk17:kd=1∨kd=2∨kd=3∨kd=4∨kd=5∨kd=6∨kd=7∨kd=8∨kd=9∨kd=10∨kd=11∨kd=12∨kd=13∨kd=14∨kd=15∨kd=16∨kd=17:=by omega
  rcases hk17 with rfl | rfl | rfl | rfl | rfl | rfl | rfl | rfl | rfl | rfl | rfl | rfl | rfl | rfl | rfl | rfl | rfl
  ·refine Zf (if_pos (by kernel_rfl)) (Zd (Zy l _) fun _ _=>Zd (place _ 3 (by omega) (by omega)) fun rg hrg=>?_)
   have hrg':Z5 rg=true:=by simp only [Z5,decide_eq_true_eq];omega
   refine Zf (if_neg (Jg (by kernel_rfl))) ?_
   refine Zf (if_pos (by kernel_rfl)) ?_
   refine Zd (s24 l 5 (by omega)) fun r ⟨l1,hr,hl1,ql1⟩=>?_
   subst hr
   refine Zd (s23 l1 nd hno hpa) fun r ⟨q,hr,⟨hqp,_⟩,hqo,hqc⟩=>?_
   subst hr
   exact Zo ⟨⟨1,v,fr,to,0,rg,0,zid,0,false,q,[],[],[],[],0,ZH,Zl,Zn⟩,rfl,JY ⟨1,v,fr,to,0,rg,0,zid,0,false,q,[],[],[],[],0,ZH,Zl,Zn⟩ 1 rfl (by decide) (by decide) hv hfr hto (by simp only [kf,List.all_cons,List.all_nil,Zi,decide_true,Bool.and_true,Bool.true_and,Bool.or_true,Bool.true_or,List.length_cons,List.length_nil,ne_eq,not_true_eq_false,not_false_eq_true,hrg',hqo]) (by kernel_rfl),⟨hqp,by simp,by simp,by simp,by simp,by simp,VD,VI,WL⟩,fun h=>⟨hqc (ql1 h),JE,Jf⟩⟩
  ·refine Zf (if_pos (by kernel_rfl)) (Zd (Zy l _) fun _ _=>Zd (place _ 3 (by omega) (by omega)) fun rg hrg=>?_)
   have hrg':Z5 rg=true:=by simp only [Z5,decide_eq_true_eq];omega
   refine Zf (if_pos (by kernel_rfl)) (Zd (Zy l _) fun _ _=>Zd (s22 _) fun r ⟨op,hr,hop⟩=>?_)
   subst hr
   refine Zf (if_neg (Jg (by kernel_rfl))) ?_
   refine Zf (if_pos (by kernel_rfl)) ?_
   refine Zd (Zy l 6) fun _ _=>Zd (place _ 20 (by omega) (by omega)) fun er her=>?_
   have her':Zb0 er=true:=by simp only [Zb0,decide_eq_true_eq];omega
   refine Zd (Zy l 7) fun _ _=>Zd (place _ 2 (by omega) (by omega)) fun st hst=>?_
   refine ZkK (ZCt l f n hf hn ⟨2,v,fr,to,0,rg,0,op,er,(cop .eql st 1),Ja,[],[],[],[],0,ZH,Zl,Zn⟩) fun r ⟨ns,hr,hn1,hn2,hn3⟩=>?_
   exact ⟨⟨2,v,fr,to,0,rg,0,op,er,(cop .eql st 1),Ja,[],ns,[],[],0,ZH,Zl,Zn⟩,hr,JY ⟨2,v,fr,to,0,rg,0,op,er,(cop .eql st 1),Ja,[],ns,[],[],0,ZH,Zl,Zn⟩ 2 rfl (by decide) (by decide) hv hfr hto (by simp only [kf,List.all_cons,List.all_nil,Zi,decide_true,Bool.and_true,Bool.true_and,Bool.or_true,Bool.true_or,List.length_cons,List.length_nil,ne_eq,not_true_eq_false,not_false_eq_true,hrg',hop.ok,her',List.all_eq_true.2 hn2,show ns.length≤8 by omega,show ¬ ((2:Int)=4) by decide]) (by kernel_rfl),⟨by simp [Ja,Jo],by simp,hn1,hn3,by simp,by simp,VD,VI,WL⟩,fun h=>⟨Yw,JE,Jf⟩⟩
  ·refine Zf (if_pos (by kernel_rfl)) (Zd (Zy l _) fun _ _=>Zd (place _ 3 (by omega) (by omega)) fun rg hrg=>?_)
   have hrg':Z5 rg=true:=by simp only [Z5,decide_eq_true_eq];omega
   refine Zf (if_pos (by kernel_rfl)) (Zd (Zy l _) fun _ _=>Zd (s22 _) fun r ⟨op,hr,hop⟩=>?_)
   subst hr
   refine Zf (if_neg (Jg (by kernel_rfl))) ?_
   refine Zf (if_neg (Jg (by kernel_rfl))) ?_
   refine Zf (if_neg (Jg (by kernel_rfl))) ?_
   refine Zf (if_neg (Jg (by kernel_rfl))) ?_
   refine Zf (if_neg (Jg (by kernel_rfl))) ?_
   refine Zf (if_neg (Jg (by kernel_rfl))) ?_
   refine Zf (if_neg (Jg (by kernel_rfl))) ?_
   refine Zf (if_neg (Jg (by kernel_rfl))) ?_
   refine Zf (if_neg (Jg (by kernel_rfl))) ?_
   exact Zo ⟨⟨3,v,fr,to,0,rg,0,op,0,false,Ja,[],[],[],[],0,ZH,Zl,Zn⟩,rfl,JY ⟨3,v,fr,to,0,rg,0,op,0,false,Ja,[],[],[],[],0,ZH,Zl,Zn⟩ 3 rfl (by decide) (by decide) hv hfr hto (by simp only [kf,List.all_cons,List.all_nil,Zi,decide_true,Bool.and_true,Bool.true_and,Bool.or_true,Bool.true_or,List.length_cons,List.length_nil,ne_eq,not_true_eq_false,not_false_eq_true,hrg',hop.ok]) (by kernel_rfl),⟨by simp [Ja,Jo],by simp,by simp,by simp,by simp,by simp,VD,VI,WL⟩,fun h=>⟨Yw,JE,Jf⟩⟩
  ·refine Zf (if_pos (by kernel_rfl)) (Zd (Zy l _) fun _ _=>Zd (place _ 3 (by omega) (by omega)) fun rg hrg=>?_)
   have hrg':Z5 rg=true:=by simp only [Z5,decide_eq_true_eq];omega
   refine Zf (if_pos (by kernel_rfl)) (Zd (Zy l _) fun _ _=>Zd (s22 _) fun r ⟨op,hr,hop⟩=>?_)
   subst hr
   refine Zf (if_neg (Jg (by kernel_rfl))) ?_
   refine Zf (if_neg (Jg (by kernel_rfl))) ?_
   refine Zf (if_pos (by kernel_rfl)) ?_
   refine Zd (Zy l 6) fun _ _=>Zd (place _ 12 (by omega) (by omega)) fun sl hsl=>?_
   have hsl':JB sl=true:=by simp only [JB,decide_eq_true_eq];omega
   refine Yb (s25 nd (Nat.le_trans hpa (by decide))) ?_
   exact Zo ⟨⟨4,v,fr,to,0,rg,sl,op,0,false,Ja,[],[nd],[],[],0,ZH,Zl,Zn⟩,rfl,JY ⟨4,v,fr,to,0,rg,sl,op,0,false,Ja,[],[nd],[],[],0,ZH,Zl,Zn⟩ 4 rfl (by decide) (by decide) hv hfr hto (by simp only [kf,List.all_cons,List.all_nil,Zi,decide_true,Bool.and_true,Bool.true_and,Bool.or_true,Bool.true_or,List.length_cons,List.length_nil,ne_eq,not_true_eq_false,not_false_eq_true,hrg',hop.ok,hsl',hno];rfl) (by kernel_rfl),⟨by simp [Ja,Jo],by simp,by simp,by intro x hx;rw [List.mem_singleton] at hx;subst hx;exact hpa,by simp,by simp,VD,VI,WL⟩,fun h=>⟨Yw,JE,Jf⟩⟩
  ·refine Zf (if_pos (by kernel_rfl)) (Zd (Zy l _) fun _ _=>Zd (place _ 3 (by omega) (by omega)) fun rg hrg=>?_)
   have hrg':Z5 rg=true:=by simp only [Z5,decide_eq_true_eq];omega
   refine Zf (if_pos (by kernel_rfl)) (Zd (Zy l _) fun _ _=>Zd (s22 _) fun r ⟨op,hr,hop⟩=>?_)
   subst hr
   refine Zf (if_neg (Jg (by kernel_rfl))) ?_
   refine Zf (if_neg (Jg (by kernel_rfl))) ?_
   refine Zf (if_neg (Jg (by kernel_rfl))) ?_
   refine Zf (if_pos (by kernel_rfl)) ?_
   refine Zd (Zy l 6) fun _ _=>Zd (place _ 20 (by omega) (by omega)) fun er her=>?_
   have her':Zb0 er=true:=by simp only [Zb0,decide_eq_true_eq];omega
   exact Zo ⟨⟨5,v,fr,to,0,rg,0,op,er,false,Ja,[],[],[],[],0,ZH,Zl,Zn⟩,rfl,JY ⟨5,v,fr,to,0,rg,0,op,er,false,Ja,[],[],[],[],0,ZH,Zl,Zn⟩ 5 rfl (by decide) (by decide) hv hfr hto (by simp only [kf,List.all_cons,List.all_nil,Zi,decide_true,Bool.and_true,Bool.true_and,Bool.or_true,Bool.true_or,List.length_cons,List.length_nil,ne_eq,not_true_eq_false,not_false_eq_true,hrg',hop.ok,her']) (by kernel_rfl),⟨by simp [Ja,Jo],by simp,by simp,by simp,by simp,by simp,VD,VI,WL⟩,fun h=>⟨Yw,JE,Jf⟩⟩
  ·refine Zf (if_pos (by kernel_rfl)) (Zd (Zy l _) fun _ _=>Zd (place _ 3 (by omega) (by omega)) fun rg hrg=>?_)
   have hrg':Z5 rg=true:=by simp only [Z5,decide_eq_true_eq];omega
   refine Zf (if_pos (by kernel_rfl)) (Zd (Zy l _) fun _ _=>Zd (s22 _) fun r ⟨op,hr,hop⟩=>?_)
   subst hr
   refine Zf (if_neg (Jg (by kernel_rfl))) ?_
   refine Zf (if_neg (Jg (by kernel_rfl))) ?_
   refine Zf (if_neg (Jg (by kernel_rfl))) ?_
   refine Zf (if_neg (Jg (by kernel_rfl))) ?_
   refine Zf (if_pos (by kernel_rfl)) ?_
   refine Zd (s24 l 6 (by omega)) fun r ⟨l1,hr,hl1,ql1⟩=>?_
   subst hr
   refine Zd (s26 l1 (by omega)) fun r ⟨is,hr,hi1,hi2⟩=>?_
   subst hr
   exact Zo ⟨⟨6,v,fr,to,0,rg,0,op,0,false,Ja,is,[],[],[],0,ZH,Zl,Zn⟩,rfl,JY ⟨6,v,fr,to,0,rg,0,op,0,false,Ja,is,[],[],[],0,ZH,Zl,Zn⟩ 6 rfl (by decide) (by decide) hv hfr hto (by simp only [kf,List.all_cons,List.all_nil,Zi,decide_true,Bool.and_true,Bool.true_and,Bool.or_true,Bool.true_or,List.length_cons,List.length_nil,ne_eq,not_true_eq_false,not_false_eq_true,hrg',hop.ok,List.all_eq_true.2 hi2,show is.length≤64 by omega]) (by kernel_rfl),⟨by simp [Ja,Jo],hi1,by simp,by simp,by simp,by simp,VD,VI,WL⟩,fun h=>⟨Yw,JE,Jf⟩⟩
  ·refine Zf (if_pos (by kernel_rfl)) (Zd (Zy l _) fun _ _=>Zd (place _ 3 (by omega) (by omega)) fun rg hrg=>?_)
   have hrg':Z5 rg=true:=by simp only [Z5,decide_eq_true_eq];omega
   refine Zf (if_pos (by kernel_rfl)) (Zd (Zy l _) fun _ _=>Zd (s22 _) fun r ⟨op,hr,hop⟩=>?_)
   subst hr
   refine Zf (if_neg (Jg (by kernel_rfl))) ?_
   refine Zf (if_neg (Jg (by kernel_rfl))) ?_
   refine Zf (if_neg (Jg (by kernel_rfl))) ?_
   refine Zf (if_neg (Jg (by kernel_rfl))) ?_
   refine Zf (if_neg (Jg (by kernel_rfl))) ?_
   refine Zf (if_neg (Jg (by kernel_rfl))) ?_
   refine Zf (if_neg (Jg (by kernel_rfl))) ?_
   refine Zf (if_neg (Jg (by kernel_rfl))) ?_
   refine Zf (if_neg (Jg (by kernel_rfl))) ?_
   exact Zo ⟨⟨7,v,fr,to,0,rg,0,op,0,false,Ja,[],[],[],[],0,ZH,Zl,Zn⟩,rfl,JY ⟨7,v,fr,to,0,rg,0,op,0,false,Ja,[],[],[],[],0,ZH,Zl,Zn⟩ 7 rfl (by decide) (by decide) hv hfr hto (by simp only [kf,List.all_cons,List.all_nil,Zi,decide_true,Bool.and_true,Bool.true_and,Bool.or_true,Bool.true_or,List.length_cons,List.length_nil,ne_eq,not_true_eq_false,not_false_eq_true,hrg',hop.ok]) (by kernel_rfl),⟨by simp [Ja,Jo],by simp,by simp,by simp,by simp,by simp,VD,VI,WL⟩,fun h=>⟨Yw,JE,Jf⟩⟩
  ·refine Zf (if_pos (by kernel_rfl)) (Zd (Zy l _) fun _ _=>Zd (place _ 3 (by omega) (by omega)) fun rg hrg=>?_)
   have hrg':Z5 rg=true:=by simp only [Z5,decide_eq_true_eq];omega
   refine Zf (if_pos (by kernel_rfl)) (Zd (Zy l _) fun _ _=>Zd (s22 _) fun r ⟨op,hr,hop⟩=>?_)
   subst hr
   refine Zf (if_neg (Jg (by kernel_rfl))) ?_
   refine Zf (if_neg (Jg (by kernel_rfl))) ?_
   refine Zf (if_neg (Jg (by kernel_rfl))) ?_
   refine Zf (if_neg (Jg (by kernel_rfl))) ?_
   refine Zf (if_neg (Jg (by kernel_rfl))) ?_
   refine Zf (if_neg (Jg (by kernel_rfl))) ?_
   refine Zf (if_neg (Jg (by kernel_rfl))) ?_
   refine Zf (if_neg (Jg (by kernel_rfl))) ?_
   refine Zf (if_neg (Jg (by kernel_rfl))) ?_
   exact Zo ⟨⟨8,v,fr,to,0,rg,0,op,0,false,Ja,[],[],[],[],0,ZH,Zl,Zn⟩,rfl,JY ⟨8,v,fr,to,0,rg,0,op,0,false,Ja,[],[],[],[],0,ZH,Zl,Zn⟩ 8 rfl (by decide) (by decide) hv hfr hto (by simp only [kf,List.all_cons,List.all_nil,Zi,decide_true,Bool.and_true,Bool.true_and,Bool.or_true,Bool.true_or,List.length_cons,List.length_nil,ne_eq,not_true_eq_false,not_false_eq_true,hrg',hop.ok]) (by kernel_rfl),⟨by simp [Ja,Jo],by simp,by simp,by simp,by simp,by simp,VD,VI,WL⟩,fun h=>⟨Yw,JE,Jf⟩⟩
  ·refine Zf (if_pos (by kernel_rfl)) (Zd (Zy l _) fun _ _=>Zd (place _ 3 (by omega) (by omega)) fun rg hrg=>?_)
   have hrg':Z5 rg=true:=by simp only [Z5,decide_eq_true_eq];omega
   refine Zf (if_pos (by kernel_rfl)) (Zd (Zy l _) fun _ _=>Zd (s22 _) fun r ⟨op,hr,hop⟩=>?_)
   subst hr
   refine Zf (if_neg (Jg (by kernel_rfl))) ?_
   refine Zf (if_neg (Jg (by kernel_rfl))) ?_
   refine Zf (if_neg (Jg (by kernel_rfl))) ?_
   refine Zf (if_neg (Jg (by kernel_rfl))) ?_
   refine Zf (if_neg (Jg (by kernel_rfl))) ?_
   refine Zf (if_neg (Jg (by kernel_rfl))) ?_
   refine Zf (if_neg (Jg (by kernel_rfl))) ?_
   refine Zf (if_neg (Jg (by kernel_rfl))) ?_
   refine Zf (if_neg (Jg (by kernel_rfl))) ?_
   exact Zo ⟨⟨9,v,fr,to,0,rg,0,op,0,false,Ja,[],[],[],[],0,ZH,Zl,Zn⟩,rfl,JY ⟨9,v,fr,to,0,rg,0,op,0,false,Ja,[],[],[],[],0,ZH,Zl,Zn⟩ 9 rfl (by decide) (by decide) hv hfr hto (by simp only [kf,List.all_cons,List.all_nil,Zi,decide_true,Bool.and_true,Bool.true_and,Bool.or_true,Bool.true_or,List.length_cons,List.length_nil,ne_eq,not_true_eq_false,not_false_eq_true,hrg',hop.ok]) (by kernel_rfl),⟨by simp [Ja,Jo],by simp,by simp,by simp,by simp,by simp,VD,VI,WL⟩,fun h=>⟨Yw,JE,Jf⟩⟩
  ·refine Zf (if_pos (by kernel_rfl)) (Zd (Zy l _) fun _ _=>Zd (place _ 3 (by omega) (by omega)) fun rg hrg=>?_)
   have hrg':Z5 rg=true:=by simp only [Z5,decide_eq_true_eq];omega
   refine Zf (if_pos (by kernel_rfl)) (Zd (Zy l _) fun _ _=>Zd (s22 _) fun r ⟨op,hr,hop⟩=>?_)
   subst hr
   refine Zf (if_neg (Jg (by kernel_rfl))) ?_
   refine Zf (if_neg (Jg (by kernel_rfl))) ?_
   refine Zf (if_neg (Jg (by kernel_rfl))) ?_
   refine Zf (if_neg (Jg (by kernel_rfl))) ?_
   refine Zf (if_neg (Jg (by kernel_rfl))) ?_
   refine Zf (if_neg (Jg (by kernel_rfl))) ?_
   refine Zf (if_neg (Jg (by kernel_rfl))) ?_
   refine Zf (if_neg (Jg (by kernel_rfl))) ?_
   refine Zf (if_neg (Jg (by kernel_rfl))) ?_
   exact Zo ⟨⟨10,v,fr,to,0,rg,0,op,0,false,Ja,[],[],[],[],0,ZH,Zl,Zn⟩,rfl,JY ⟨10,v,fr,to,0,rg,0,op,0,false,Ja,[],[],[],[],0,ZH,Zl,Zn⟩ 10 rfl (by decide) (by decide) hv hfr hto (by simp only [kf,List.all_cons,List.all_nil,Zi,decide_true,Bool.and_true,Bool.true_and,Bool.or_true,Bool.true_or,List.length_cons,List.length_nil,ne_eq,not_true_eq_false,not_false_eq_true,hrg',hop.ok]) (by kernel_rfl),⟨by simp [Ja,Jo],by simp,by simp,by simp,by simp,by simp,VD,VI,WL⟩,fun h=>⟨Yw,JE,Jf⟩⟩
  ·refine Zf (if_pos (by kernel_rfl)) (Zd (Zy l _) fun _ _=>Zd (place _ 3 (by omega) (by omega)) fun rg hrg=>?_)
   have hrg':Z5 rg=true:=by simp only [Z5,decide_eq_true_eq];omega
   refine Zf (if_pos (by kernel_rfl)) (Zd (Zy l _) fun _ _=>Zd (s22 _) fun r ⟨op,hr,hop⟩=>?_)
   subst hr
   refine Zf (if_neg (Jg (by kernel_rfl))) ?_
   refine Zf (if_neg (Jg (by kernel_rfl))) ?_
   refine Zf (if_neg (Jg (by kernel_rfl))) ?_
   refine Zf (if_neg (Jg (by kernel_rfl))) ?_
   refine Zf (if_neg (Jg (by kernel_rfl))) ?_
   refine Zf (if_neg (Jg (by kernel_rfl))) ?_
   refine Zf (if_neg (Jg (by kernel_rfl))) ?_
   refine Zf (if_neg (Jg (by kernel_rfl))) ?_
   refine Zf (if_neg (Jg (by kernel_rfl))) ?_
   exact Zo ⟨⟨11,v,fr,to,0,rg,0,op,0,false,Ja,[],[],[],[],0,ZH,Zl,Zn⟩,rfl,JY ⟨11,v,fr,to,0,rg,0,op,0,false,Ja,[],[],[],[],0,ZH,Zl,Zn⟩ 11 rfl (by decide) (by decide) hv hfr hto (by simp only [kf,List.all_cons,List.all_nil,Zi,decide_true,Bool.and_true,Bool.true_and,Bool.or_true,Bool.true_or,List.length_cons,List.length_nil,ne_eq,not_true_eq_false,not_false_eq_true,hrg',hop.ok]) (by kernel_rfl),⟨by simp [Ja,Jo],by simp,by simp,by simp,by simp,by simp,VD,VI,WL⟩,fun h=>⟨Yw,JE,Jf⟩⟩
  ·refine Zf (if_neg (Jg (by kernel_rfl))) (Zf (if_pos (by kernel_rfl)) (Zd (Zy l _) fun _ _=>Zd (place _ 5 (by omega) (by omega)) fun rnd hrnd=>?_))
   have hrnd':JA rnd=true:=by simp only [JA,decide_eq_true_eq];omega
   refine Zf (if_neg (Jg (by kernel_rfl))) ?_
   refine Zf (if_neg (Jg (by kernel_rfl))) ?_
   refine Zf (if_neg (Jg (by kernel_rfl))) ?_
   refine Zf (if_neg (Jg (by kernel_rfl))) ?_
   refine Zf (if_neg (Jg (by kernel_rfl))) ?_
   refine Zf (if_pos (by kernel_rfl)) ?_
   refine Zd (Zy l 6) fun _ _=>Zd (s27 _) fun r ⟨cs,hr,hc1,hc2⟩=>?_
   subst hr
   exact Zo ⟨⟨12,v,fr,to,rnd,0,0,zid,0,false,Ja,[],[],cs,[],0,ZH,Zl,Zn⟩,rfl,JY ⟨12,v,fr,to,rnd,0,0,zid,0,false,Ja,[],[],cs,[],0,ZH,Zl,Zn⟩ 12 rfl (by decide) (by decide) hv hfr hto (by simp only [kf,List.all_cons,List.all_nil,Zi,decide_true,Bool.and_true,Bool.true_and,Bool.or_true,Bool.true_or,List.length_cons,List.length_nil,ne_eq,not_true_eq_false,not_false_eq_true,hrnd',hc2]) (by kernel_rfl),⟨by simp [Ja,Jo],by simp,by simp,by simp,hc1,by simp,VD,VI,WL⟩,fun h=>⟨Yw,JE,Jf⟩⟩
  ·refine Zf (if_neg (Jg (by kernel_rfl))) (Zf (if_pos (by kernel_rfl)) (Zd (Zy l _) fun _ _=>Zd (place _ 5 (by omega) (by omega)) fun rnd hrnd=>?_))
   have hrnd':JA rnd=true:=by simp only [JA,decide_eq_true_eq];omega
   refine Zf (if_neg (Jg (by kernel_rfl))) ?_
   refine Zf (if_neg (Jg (by kernel_rfl))) ?_
   refine Zf (if_neg (Jg (by kernel_rfl))) ?_
   refine Zf (if_neg (Jg (by kernel_rfl))) ?_
   refine Zf (if_neg (Jg (by kernel_rfl))) ?_
   refine Zf (if_neg (Jg (by kernel_rfl))) ?_
   refine Zf (if_pos (by kernel_rfl)) ?_
   refine Zd (s24 l 6 (by omega)) fun r ⟨l1,hr,hl1,ql1⟩=>?_
   subst hr
   refine Zd (s28 l1 f n hf hn) fun r ⟨p,hr,hp,hpc⟩=>?_
   subst hr
   exact Zo ⟨⟨13,v,fr,to,rnd,0,0,zid,0,false,Ja,[],[],[],[],0,ZH,Zl,p⟩,rfl,JY ⟨13,v,fr,to,rnd,0,0,zid,0,false,Ja,[],[],[],[],0,ZH,Zl,p⟩ 13 rfl (by decide) (by decide) hv hfr hto (by simp only [kf,List.all_cons,List.all_nil,Zi,decide_true,Bool.and_true,Bool.true_and,Bool.or_true,Bool.true_or,List.length_cons,List.length_nil,ne_eq,not_true_eq_false,not_false_eq_true,hrnd',hp.ok]) (by kernel_rfl),⟨by simp [Ja,Jo],by simp,by simp,by simp,by simp,by simp,VD,VI,hp⟩,fun h=>⟨Yw,JE,hpc (ql1 h)⟩⟩
  ·refine Zf (if_neg (Jg (by kernel_rfl))) (Zf (if_pos (by kernel_rfl)) (Zd (Zy l _) fun _ _=>Zd (place _ 5 (by omega) (by omega)) fun rnd hrnd=>?_))
   have hrnd':JA rnd=true:=by simp only [JA,decide_eq_true_eq];omega
   refine Zf (if_neg (Jg (by kernel_rfl))) ?_
   refine Zf (if_neg (Jg (by kernel_rfl))) ?_
   refine Zf (if_neg (Jg (by kernel_rfl))) ?_
   refine Zf (if_neg (Jg (by kernel_rfl))) ?_
   refine Zf (if_neg (Jg (by kernel_rfl))) ?_
   refine Zf (if_neg (Jg (by kernel_rfl))) ?_
   refine Zf (if_neg (Jg (by kernel_rfl))) ?_
   refine Zf (if_pos (by kernel_rfl)) ?_
   refine Zd (Zy l 5) fun _ _=>Zd (place _ 70 (by omega) (by omega)) fun bs hbs=>?_
   have hbs':JA bs=true:=by simp only [JA,decide_eq_true_eq];omega
   refine Zd (Zy l 6) fun _ _=>Zd (s27 _) fun r ⟨cs,hr,hc1,hc2⟩=>?_
   subst hr
   refine Zd (s24 l 7 (by omega)) fun r ⟨l1,hr,hl1,ql1⟩=>?_
   subst hr
   refine Zd (s29 l1) fun r ⟨nv,hr,hnv⟩=>?_
   subst hr
   refine Zd (s24 l 8 (by omega)) fun r ⟨l2,hr,hl2,ql2⟩=>?_
   subst hr
   refine Zd (Zy l 9) fun _ _=>Zd (place _ 4 (by omega) (by omega)) fun c9 hc9=>?_
   refine Zd (s30 l2 f n hf hn c9) fun r ⟨ss,hr,hss,hsc⟩=>?_
   subst hr
   exact Zo ⟨⟨14,v,fr,to,rnd,0,0,zid,0,false,Ja,[],[],cs,[],bs,nv,ss,Zn⟩,rfl,JY ⟨14,v,fr,to,rnd,0,0,zid,0,false,Ja,[],[],cs,[],bs,nv,ss,Zn⟩ 14 rfl (by decide) (by decide) hv hfr hto (by simp only [kf,List.all_cons,List.all_nil,Zi,decide_true,Bool.and_true,Bool.true_and,Bool.or_true,Bool.true_or,List.length_cons,List.length_nil,ne_eq,not_true_eq_false,not_false_eq_true,hrnd',hbs',hc2,hnv.ok,hss.ok]) (by kernel_rfl),⟨by simp [Ja,Jo],by simp,by simp,by simp,hc1,by simp,hnv,hss.short hf,WL⟩,fun h=>⟨Yw,hsc (ql2 h),Jf⟩⟩
  ·refine Zf (if_neg (Jg (by kernel_rfl))) (Zf (if_pos (by kernel_rfl)) (Zd (Zy l _) fun _ _=>Zd (place _ 5 (by omega) (by omega)) fun rnd hrnd=>?_))
   have hrnd':JA rnd=true:=by simp only [JA,decide_eq_true_eq];omega
   refine Zf (if_neg (Jg (by kernel_rfl))) ?_
   refine Zf (if_neg (Jg (by kernel_rfl))) ?_
   refine Zf (if_neg (Jg (by kernel_rfl))) ?_
   refine Zf (if_neg (Jg (by kernel_rfl))) ?_
   refine Zf (if_neg (Jg (by kernel_rfl))) ?_
   refine Zf (if_neg (Jg (by kernel_rfl))) ?_
   refine Zf (if_neg (Jg (by kernel_rfl))) ?_
   refine Zf (if_neg (Jg (by kernel_rfl))) ?_
   refine Zf (if_neg (Jg (by kernel_rfl))) ?_
   exact Zo ⟨⟨15,v,fr,to,rnd,0,0,zid,0,false,Ja,[],[],[],[],0,ZH,Zl,Zn⟩,rfl,JY ⟨15,v,fr,to,rnd,0,0,zid,0,false,Ja,[],[],[],[],0,ZH,Zl,Zn⟩ 15 rfl (by decide) (by decide) hv hfr hto (by simp only [kf,List.all_cons,List.all_nil,Zi,decide_true,Bool.and_true,Bool.true_and,Bool.or_true,Bool.true_or,List.length_cons,List.length_nil,ne_eq,not_true_eq_false,not_false_eq_true,hrnd']) (by kernel_rfl),⟨by simp [Ja,Jo],by simp,by simp,by simp,by simp,by simp,VD,VI,WL⟩,fun h=>⟨Yw,JE,Jf⟩⟩
  ·refine Zf (if_neg (Jg (by kernel_rfl))) (Zf (if_pos (by kernel_rfl)) (Zd (Zy l _) fun _ _=>Zd (place _ 5 (by omega) (by omega)) fun rnd hrnd=>?_))
   have hrnd':JA rnd=true:=by simp only [JA,decide_eq_true_eq];omega
   refine Zf (if_neg (Jg (by kernel_rfl))) ?_
   refine Zf (if_neg (Jg (by kernel_rfl))) ?_
   refine Zf (if_neg (Jg (by kernel_rfl))) ?_
   refine Zf (if_neg (Jg (by kernel_rfl))) ?_
   refine Zf (if_neg (Jg (by kernel_rfl))) ?_
   refine Zf (if_neg (Jg (by kernel_rfl))) ?_
   refine Zf (if_neg (Jg (by kernel_rfl))) ?_
   refine Zf (if_neg (Jg (by kernel_rfl))) ?_
   refine Zf (if_neg (Jg (by kernel_rfl))) ?_
   exact Zo ⟨⟨16,v,fr,to,rnd,0,0,zid,0,false,Ja,[],[],[],[],0,ZH,Zl,Zn⟩,rfl,JY ⟨16,v,fr,to,rnd,0,0,zid,0,false,Ja,[],[],[],[],0,ZH,Zl,Zn⟩ 16 rfl (by decide) (by decide) hv hfr hto (by simp only [kf,List.all_cons,List.all_nil,Zi,decide_true,Bool.and_true,Bool.true_and,Bool.or_true,Bool.true_or,List.length_cons,List.length_nil,ne_eq,not_true_eq_false,not_false_eq_true,hrnd']) (by kernel_rfl),⟨by simp [Ja,Jo],by simp,by simp,by simp,by simp,by simp,VD,VI,WL⟩,fun h=>⟨Yw,JE,Jf⟩⟩
  ·refine Zf (if_neg (Jg (by kernel_rfl))) (Zf (if_neg (Jg (by kernel_rfl))) ?_)
   refine Zf (if_neg (Jg (by kernel_rfl))) ?_
   refine Zf (if_neg (Jg (by kernel_rfl))) ?_
   refine Zf (if_neg (Jg (by kernel_rfl))) ?_
   refine Zf (if_neg (Jg (by kernel_rfl))) ?_
   refine Zf (if_neg (Jg (by kernel_rfl))) ?_
   refine Zf (if_neg (Jg (by kernel_rfl))) ?_
   refine Zf (if_neg (Jg (by kernel_rfl))) ?_
   refine Zf (if_neg (Jg (by kernel_rfl))) ?_
   refine Zf (if_pos (by kernel_rfl)) ?_
   refine Zd (Zy l 6) fun _ _=>Zd (s27 _) fun r ⟨cs,hr,hc1,hc2⟩=>?_
   subst hr
   refine ZkK (ZA5 l ⟨17,v,fr,to,0,0,0,zid,0,false,Ja,[],[],cs,[],0,ZH,Zl,Zn⟩) fun r ⟨ns,hr,hn1,hn2⟩=>?_
   exact ⟨⟨17,v,fr,to,0,0,0,zid,0,false,Ja,[],[],cs,ns,0,ZH,Zl,Zn⟩,hr,JY ⟨17,v,fr,to,0,0,0,zid,0,false,Ja,[],[],cs,ns,0,ZH,Zl,Zn⟩ 17 rfl (by decide) (by decide) hv hfr hto (by simp only [kf,List.all_cons,List.all_nil,Zi,decide_true,Bool.and_true,Bool.true_and,Bool.or_true,Bool.true_or,List.length_cons,List.length_nil,ne_eq,not_true_eq_false,not_false_eq_true,hc2,List.all_eq_true.2 hn2,show ns.length≤16 by omega]) (by kernel_rfl),⟨by simp [Ja,Jo],by simp,by simp,by simp,hc1,hn1,VD,VI,WL⟩,fun h=>⟨Yw,JE,Jf⟩⟩
end Go.Proofs.YtjldbnbdcmfbmaaGreat
end

section
namespace Go.Proofs.YtjldbnbdcmfbmaaGreat
open Go Go.AM
set_option linter.unusedSimpArgs false
set_option linter.unusedVariables false
set_option maxRecDepth 100000
theorem e9:g12 3 1 0 2 0 1 0 0 5 0 0 false 0 0 0 0 0 0 0 0 0 0 0 0 0 0 0 0 0 0 0 0 E0 0 0 0 0 0 0 false E0 E0 E0 E0 0 0 E0 E0 E0 E0 E0 E0 E0 E0 0 0 E0 E0 E0 E0 E0 E0 E0 E0 false 0 E0 E0 E0 E0 E0 E0 E0 E0=some true:=by kernel_rfl
theorem e7:g14 3 1 0 2 0 1 0 0 5 0 0 false 0 0 0 0 0 0 0 0 0 0 0 0 0 0 0 0 0 0 0 0 E0 0 0 0 0 0 0 false E0 E0 E0 E0 0 0 E0 E0 E0 E0 E0 E0 E0 E0 0 0 E0 E0 E0 E0 E0 E0 E0 E0 false 0 E0 E0 E0 E0 E0 E0 E0 E0=some ((Zc [3,1,0,2,1,0,5,0]),0):=by kernel_rfl
theorem e17:g19 3 1 0 2 0 1 0 0 5 0 0 false 0 0 0 0 0 0 0 0 0 0 0 0 0 0 0 0 0 0 0 0 E0 0 0 0 0 0 0 false E0 E0 E0 E0 0 0 E0 E0 E0 E0 E0 E0 E0 E0 0 0 E0 E0 E0 E0 E0 E0 E0 E0 false 0 E0 E0 E0 E0 E0 E0 E0 E0 3 1 0 2 0 1 0 0 5 0 0 false 0 0 0 0 0 0 0 0 0 0 0 0 0 0 0 0 0 0 0 0 E0 0 0 0 0 0 0 false E0 E0 E0 E0 0 0 E0 E0 E0 E0 E0 E0 E0 E0 0 0 E0 E0 E0 E0 E0 E0 E0 E0 false 0 E0 E0 E0 E0 E0 E0 E0 E0=some true:=by kernel_rfl
theorem e16:g17 (Zc [3,1,0,2,1,0,5,0])=some (3,1,0,2,0,1,0,0,5,0,0,false,0,0,0,0,0,0,0,0,0,0,0,0,0,0,0,0,0,0,0,0,E0,0,0,0,0,0,0,false,E0,E0,E0,E0,0,0,E0,E0,E0,E0,E0,E0,E0,E0,0,0,E0,E0,E0,E0,E0,E0,E0,E0,false,0,E0,E0,E0,E0,E0,E0,E0,E0,0):=by kernel_rfl
theorem s9:g9=some true:=by
 rw [ZBo,e7,Option.bind_some]
 dsimp only
 rw [e16,Option.bind_some]
 dsimp only [d2,d4,d8,d16]
 rw [e17,e9]
 refine JP (fun _=>?_) fun h=>absurd (by decide) h
 refine JP (fun _=>?_) fun h=>absurd (by decide) h
 refine ZqS (of_decide_eq_true (by kernel_rfl)) ?_
 refine JP (fun _=>rfl) fun h=>absurd (by rw [ByteArray.toList_eq,ByteArray.toList_eq];decide) h
end Go.Proofs.YtjldbnbdcmfbmaaGreat
end

section
namespace Go.Proofs.YtjldbnbdcmfbmaaGreat
open Go Go.AM
set_option linter.unusedSimpArgs false
set_option linter.unusedVariables false
set_option maxRecDepth 100000
end Go.Proofs.YtjldbnbdcmfbmaaGreat
end

section
namespace Go.Proofs.YtjldbnbdcmfbmaaGreat
open Go Go.AM
set_option linter.unusedSimpArgs false
set_option linter.unusedVariables false
set_option maxRecDepth 100000
theorem ZvV (a b:Int):iop .and .i64 a b=(BitVec.ofInt 64 a&&& BitVec.ofInt 64 b).toInt:=by
 show IntKind.wrap .i64 (((BitVec.ofInt 64 a&&& BitVec.ofInt 64 b).toNat:Nat):Int)=_
 generalize BitVec.ofInt 64 a&&& BitVec.ofInt 64 b=x
 have:=x.isLt
 rw [BitVec.toInt_eq_toNat_cond]
 simp only [IntKind.wrap]
 have hs:IntKind.i64.signed=true:=rfl
 have hb:IntKind.i64.bits=64:=rfl
 have h64:(2:Nat)^64=18446744073709551616:=by decide
 have h65:(2:Int)^64=18446744073709551616:=by decide
 have h63:(2:Int)^(64-1)=9223372036854775808:=by decide
 simp only [hs,hb,if_true,Bool.true_and,decide_eq_true_eq,h65,h63]
 rw [h64] at this ⊢
 by_cases hx:2*x.toNat < 18446744073709551616
 ·rw [if_pos hx];omega
 ·rw [if_neg hx];omega
end Go.Proofs.YtjldbnbdcmfbmaaGreat
end

section
namespace Go.Proofs.YtjldbnbdcmfbmaaGreat
open Go Go.AM
set_option linter.unusedSimpArgs false
set_option linter.unusedVariables false
set_option maxRecDepth 100000
end Go.Proofs.YtjldbnbdcmfbmaaGreat
end

section
namespace Go.Proofs.YtjldbnbdcmfbmaaGreat
open Go Go.AM
set_option linter.unusedSimpArgs false
set_option linter.unusedVariables false
set_option maxRecDepth 100000
theorem Z9 (l:List Int):(Zc l).length=l.length:=by simp [Zc]
theorem Zlf {l:List Int} (h:YN l):ZbN (Zc l):=by
 intro e he
 obtain ⟨z,hz,rfl⟩:=List.mem_map.1 he
 exact ⟨z,(h z hz).1,(h z hz).2,rfl⟩
theorem ZcK (z:Int):IntKind.wrap .u8 z=z % 256:=by
 have hb:IntKind.u8.bits=8:=rfl
 have hs:IntKind.u8.signed=false:=rfl
 simp [IntKind.wrap,hb,hs]
theorem ZcV {a:Int} {n:Nat} (h:n≤64):iop .shr .i64 a n=a / 2^n:=by
 have hmin:min ((n:Int)).toNat IntKind.i64.bits=n:=by
  have:IntKind.i64.bits=64:=rfl
  omega
 simp only [iop,hmin]
 rw [Int.fdiv_eq_ediv_of_nonneg _ (by have:=Yu n;omega)]
theorem ZgI (x:Int):IntKind.wrap .u8 (iop .and .i64 x 255)=IntKind.wrap .u8 x:=by
 rw [ZcK,ZcK,ZvV,BitVec.toInt_eq_toNat_cond]
 have h1:(BitVec.ofInt 64 x&&& BitVec.ofInt 64 255).toNat=(x % 2^64).toNat % 256:=by
  rw [BitVec.toNat_and,BitVec.toNat_ofInt,BitVec.toNat_ofInt]
  have h255:((255:Int) % ((2^64:Nat):Int)).toNat=2^8-1:=by decide
  rw [h255,Nat.and_two_pow_sub_one_eq_mod]
  rfl
 have h64:(2:Int)^64=18446744073709551616:=by decide
 have h65:(2:Nat)^64=18446744073709551616:=by decide
 rw [h1,h64,h65]
 split<;>omega
def YK (c:Cap):List Int:=[c.kind,c.bits,c.rights+(if c.device=true then 8 else 0),c.width,c.level,c.base % 256,c.base / 256 % 256,c.base / 65536 % 256,c.base / 16777216 % 256,c.base / 4294967296 % 256]
def Zkm (c:Cap):List Int:=if Ka c=true then YK c else []
def Zrf (c:Cap):Int:=if Ka c=true then 0 else 1
theorem Ze5 {c:Cap} (h:Ka c=true):1≤c.kind∧c.kind≤6∧6≤c.bits∧c.bits≤40∧0≤c.rights∧c.rights≤7∧0≤c.width∧c.width≤39∧0≤c.level∧c.level≤2∧0≤c.base∧c.base < 1099511627776:=by
 obtain ⟨r1,r2,r3,r4,r5⟩:=Zcr (Zn3 h)
 have hp:=Yu c.bits.toNat
 simp only [Ka,Bool.and_eq_true,decide_eq_true_eq] at h
 obtain ⟨⟨⟨⟨h1,h2⟩,h3⟩,h4⟩,h5⟩:=h
 simp only [VV,decide_eq_true_eq] at h1
 have h6:0≤c.width∧c.width≤39∧0≤c.level∧c.level≤2:=by
  split at h4
  ·simp only [ZbS,decide_eq_true_eq] at h4
   omega
  ·simp only [decide_eq_true_eq] at h4
   omega
 omega
theorem room1 {a b:List (List AV)} (ha:a.length≤200000000000) (hb:b.length≤200000000000):Jw a b 1:=by
 unfold Jw Yc
 omega
theorem ZjD {f:Nat} {k b s r w l:Int} {d:Bool} {x0 x1 x2 x3 x4:Int} : Zhv (f+1+1+1+1+1+1) k b s r w l d (Zc [x0,x1,x2,x3,x4]) 0 =
  some (Zc [x0,x1,x2,x3,x4,b % 256,b / 256 % 256,b / 65536 % 256,b / 16777216 % 256,b / 4294967296 % 256],0):=by
 have q0:iop .shr .i64 b (iop .mul .i64 8 0)=b:=by rw [show iop .mul .i64 8 0=((0:Nat):Int) by decide,ZcV (by decide)];simp
 have q1:iop .shr .i64 b (iop .mul .i64 8 1)=b / 256:=by rw [show iop .mul .i64 8 1=((8:Nat):Int) by decide,ZcV (by decide)];rfl
 have q2:iop .shr .i64 b (iop .mul .i64 8 2)=b / 65536:=by rw [show iop .mul .i64 8 2=((16:Nat):Int) by decide,ZcV (by decide)];rfl
 have q3:iop .shr .i64 b (iop .mul .i64 8 3)=b / 16777216:=by rw [show iop .mul .i64 8 3=((24:Nat):Int) by decide,ZcV (by decide)];rfl
 have q4:iop .shr .i64 b (iop .mul .i64 8 4)=b / 4294967296:=by rw [show iop .mul .i64 8 4=((32:Nat):Int) by decide,ZcV (by decide)];rfl
 rw [Vq,if_pos (by decide),Zj (by decide),Zj (room1 (by simp [Zc]) (by simp)),q0,show iop .add .i64 0 1=1 by decide,
  Vq,if_pos (by decide),Zj (by decide),Zj (room1 (by simp [Zc]) (by simp)),q1,show iop .add .i64 1 1=2 by decide,
  Vq,if_pos (by decide),Zj (by decide),Zj (room1 (by simp [Zc]) (by simp)),q2,show iop .add .i64 2 1=3 by decide,
  Vq,if_pos (by decide),Zj (by decide),Zj (room1 (by simp [Zc]) (by simp)),q3,show iop .add .i64 3 1=4 by decide,
  Vq,if_pos (by decide),Zj (by decide),Zj (room1 (by simp [Zc]) (by simp)),q4,show iop .add .i64 4 1=5 by decide,
  Vq,if_neg (by decide)]
 simp only [ZcK]
 rfl
theorem ZEK (k b s r w l:Int) (d:Bool):ZAz k b s r w l d=some (Zc (Zkm ⟨k,b,s,r,w,l,d⟩),Zrf ⟨k,b,s,r,w,l,d⟩):=by
 rw [ZsQ,ZC1]
 simp only [Option.bind_some]
 cases hc:Ka ⟨k,b,s,r,w,l,d⟩ with
 | false => simp [Zkm, Zrf, hc, Zc]
 | true =>
  obtain ⟨h1,h2,h3,h4,h5,h6,h7,h8,h9,h10,h11,h12⟩:=Ze5 hc
  simp only at h1 h2 h3 h4 h5 h6 h7 h8 h9 h10 h11 h12
  have a8:iop .add .i64 r 8=r+8:=JC (by omega) (by omega)
  have w1:k % 256=k:=by omega
  have w2:s % 256=s:=by omega
  have w3:r % 256=r:=by omega
  have w4:(r+8) % 256=r+8:=by omega
  have w5:w % 256=w:=by omega
  have w6:l % 256=l:=by omega
  obtain ⟨f,hf⟩:=Zmz
  simp only [Bool.not_true,Bool.false_eq_true,if_false,ZcK,a8,w1,w2,w3,w4,w5,w6,hf]
  cases d
  ·have:=ZjD (f:=f) (k:=k) (b:=b) (s:=s) (r:=r) (w:=w) (l:=l) (d:=false) (x0:=k) (x1:=s) (x2:=r) (x3:=w) (x4:=l)
   rw [if_neg (by simp)]
   simp only [Zkm,Zrf,hc,if_true,YK,Bool.false_eq_true,if_false,Int.add_zero]
   exact this
  ·have:=ZjD (f:=f) (k:=k) (b:=b) (s:=s) (r:=r) (w:=w) (l:=l) (d:=true) (x0:=k) (x1:=s) (x2:=r+8) (x3:=w) (x4:=l)
   rw [if_pos rfl]
   simp only [Zkm,Zrf,hc,if_true,YK]
   exact this
theorem ZgG {f:Nat} {k b s r w l:Int} {d:Bool} {x0 x1 x2 x3 x4:Int} : ZhQ (f+1+1+1+1+1+1) k b s r w l d (Zc [x0,x1,x2,x3,x4]) 0 =
  some (Zc [x0,x1,x2,x3,x4,b % 256,b / 256 % 256,b / 65536 % 256,b / 16777216 % 256,b / 4294967296 % 256],0):=by
 have v0:IntKind.wrap .u64 (iop .mul .i64 8 0)=((0:Nat):Int):=by decide
 have v1:IntKind.wrap .u64 (iop .mul .i64 8 1)=((8:Nat):Int):=by decide
 have v2:IntKind.wrap .u64 (iop .mul .i64 8 2)=((16:Nat):Int):=by decide
 have v3:IntKind.wrap .u64 (iop .mul .i64 8 3)=((24:Nat):Int):=by decide
 have v4:IntKind.wrap .u64 (iop .mul .i64 8 4)=((32:Nat):Int):=by decide
 have q0:iop .shr .i64 b ((0:Nat):Int)=b:=by rw [ZcV (by decide)];simp
 have q1:iop .shr .i64 b ((8:Nat):Int)=b / 256:=ZcV (by decide)
 have q2:iop .shr .i64 b ((16:Nat):Int)=b / 65536:=ZcV (by decide)
 have q3:iop .shr .i64 b ((24:Nat):Int)=b / 16777216:=ZcV (by decide)
 have q4:iop .shr .i64 b ((32:Nat):Int)=b / 4294967296:=ZcV (by decide)
 rw [Vv,if_pos (by decide),Zj (by decide),Zj (room1 (by simp [Zc]) (by simp)),ZgI,v0,q0,show iop .add .i64 0 1=1 by decide,
  Vv,if_pos (by decide),Zj (by decide),Zj (room1 (by simp [Zc]) (by simp)),ZgI,v1,q1,show iop .add .i64 1 1=2 by decide,
  Vv,if_pos (by decide),Zj (by decide),Zj (room1 (by simp [Zc]) (by simp)),ZgI,v2,q2,show iop .add .i64 2 1=3 by decide,
  Vv,if_pos (by decide),Zj (by decide),Zj (room1 (by simp [Zc]) (by simp)),ZgI,v3,q3,show iop .add .i64 3 1=4 by decide,
  Vv,if_pos (by decide),Zj (by decide),Zj (room1 (by simp [Zc]) (by simp)),ZgI,v4,q4,show iop .add .i64 4 1=5 by decide,
  Vv,if_neg (by decide)]
 simp only [ZcK]
 rfl
theorem ZEl (k b s r w l:Int) (d:Bool):ZBE k b s r w l d=some (Zc (Zkm ⟨k,b,s,r,w,l,d⟩),Zrf ⟨k,b,s,r,w,l,d⟩):=by
 rw [ZrF,Zzi]
 simp only [Option.bind_some]
 cases hc:Ka ⟨k,b,s,r,w,l,d⟩ with
 | false => simp [Zkm, Zrf, hc, Zc]
 | true =>
  obtain ⟨h1,h2,h3,h4,h5,h6,h7,h8,h9,h10,h11,h12⟩:=Ze5 hc
  simp only at h1 h2 h3 h4 h5 h6 h7 h8 h9 h10 h11 h12
  have a8:iop .add .i64 r 8=r+8:=JC (by omega) (by omega)
  have w1:k % 256=k:=by omega
  have w2:s % 256=s:=by omega
  have w3:r % 256=r:=by omega
  have w4:(r+8) % 256=r+8:=by omega
  have w5:w % 256=w:=by omega
  have w6:l % 256=l:=by omega
  obtain ⟨f,hf⟩:=Zmz
  simp only [Bool.not_true,Bool.false_eq_true,if_false,ZcK,a8,w1,w2,w3,w4,w5,w6,hf]
  cases d
  ·have:=ZgG (f:=f) (k:=k) (b:=b) (s:=s) (r:=r) (w:=w) (l:=l) (d:=false) (x0:=k) (x1:=s) (x2:=r) (x3:=w) (x4:=l)
   rw [if_neg (by simp)]
   simp only [Zkm,Zrf,hc,if_true,YK,Bool.false_eq_true,if_false,Int.add_zero]
   exact this
  ·have:=ZgG (f:=f) (k:=k) (b:=b) (s:=s) (r:=r) (w:=w) (l:=l) (d:=true) (x0:=k) (x1:=s) (x2:=r+8) (x3:=w) (x4:=l)
   rw [if_pos rfl]
   simp only [Zkm,Zrf,hc,if_true,YK]
   exact this
end Go.Proofs.YtjldbnbdcmfbmaaGreat
end

section
namespace Go.Proofs.YtjldbnbdcmfbmaaGreat
open Go Go.AM
set_option linter.unusedSimpArgs false
set_option linter.unusedVariables false
set_option maxRecDepth 100000
def uvm:Nat→Nat→List Int
 | 0, _ => []
 | 1, v => [((v % 128 : Nat) : Int)]
 | m + 2, v => ((v % 128 + 128 : Nat) : Int) :: uvm (m + 1) (v / 128)
def cnt:Nat→Nat→Nat
 | 0, _ => 0
 | k + 1, r => if r = 0 then 0 else 1 + cnt k (r / 128)
def uvN (v:Nat):Nat:=1+cnt 10 (v / 128)
def uv (v:Nat):List Int:=uvm (uvN v) v
theorem ZnW:∀ (k r:Nat),cnt k r≤k
 | 0, _ => Nat.le_refl _
 | k + 1, r => by
  unfold cnt
  split
  ·omega
  ·have:=ZnW k (r / 128)
   omega
theorem Zm3:∀ (m v:Nat),(uvm m v).length=m
 | 0, _ => rfl
 | 1, _ => rfl
 | m + 2, v => by simp [uvm, Zm3 (m + 1)]
theorem ZhS:∀ (m v:Nat),YN (uvm m v)
 | 0, _ => by simp [uvm, YN]
 | 1, v => by
  intro z hz
  rw [uvm,List.mem_singleton] at hz
  omega
 | m + 2, v => by
  intro z hz
  rw [uvm,List.mem_cons] at hz
  rcases hz with rfl | hz
  ·omega
  ·exact ZhS (m+1) (v / 128) z hz
theorem ZAJ (r:Nat):iop .shr .u64 (r:Int) 7=((r / 128:Nat):Int):=by
 have hmin:min ((7:Int)).toNat IntKind.u64.bits=7:=by
  have:IntKind.u64.bits=64:=rfl
  omega
 simp only [iop,hmin]
 rw [Int.fdiv_eq_ediv_of_nonneg _ (by decide)]
 rfl
theorem ZxH (v:Nat):IntKind.wrap .u8 (iop .and .u64 (v:Int) 127)=((v % 128:Nat):Int):=by
 have h1:(BitVec.ofInt 64 (v:Int)&&& BitVec.ofInt 64 127).toNat=v % 128:=by
  rw [BitVec.toNat_and,BitVec.toNat_ofInt,BitVec.toNat_ofInt]
  have h127:((127:Int) % ((2^64:Nat):Int)).toNat=2^7-1:=by decide
  rw [h127,Nat.and_two_pow_sub_one_eq_mod]
  have h65:(2:Nat)^64=18446744073709551616:=by decide
  have h7:(2:Nat)^7=128:=by decide
  rw [h65,h7]
  omega
 show IntKind.wrap .u8 (IntKind.wrap .u64 (((BitVec.ofInt 64 (v:Int)&&& BitVec.ofInt 64 127).toNat:Nat):Int))=_
 rw [h1,Ys (by omega) (by have:(2:Int)^64=18446744073709551616:=(by decide);omega),ZcK]
 omega
theorem ZAA {c:Nat} (h:c < 128):iop .or .u8 (c:Int) 128=((c+128:Nat):Int):=by
 have:∀ c:Fin 128,iop .or .u8 ((c.val:Nat):Int) 128=((c.val+128:Nat):Int):=by decide +kernel
 exact this ⟨c,h⟩
theorem ZdJ (a b:List Int):Zc (a++b)=Zc a++Zc b:=by simp [Zc]
theorem ZkJ:∀ (a b:List Int) (y z:Int),Jc (Zc (a++y::b)) a.length 0 [AV.val (.int .u8 z)]=Zc (a++z::b)
 | [], b, y, z => by simp [Jc, Zc, u8c, setCells, List.modify_zero_cons]
 | x :: a, b, y, z => by
  have ih:=ZkJ a b y z
  simp only [Jc,Zc] at ih ⊢
  simp only [List.cons_append,List.map_cons,List.length_cons,List.modify_succ_cons,ih]
theorem ZCE {x0:List (List AV)} {v:Int} (hx:x0.length≤100000000000):∀ (k fuel r s:Nat),r < 128^k→k < fuel→s+k≤100→∀ (y:Option (List (List AV))),
  Zdj Zr x0 v ((s+cnt k r:Nat):Int) (Zme (List.replicate (x0.length+(s+cnt k r)) [AV.val (.int .u8 0)]) x0) 0=y→ZhX fuel x0 v s r=y:=by
 have exit:∀ (f s:Nat),s≤100→∀ (y:Option (List (List AV))),Zdj Zr x0 v (s:Int) (Zme (List.replicate (x0.length+s) [AV.val (.int .u8 0)]) x0) 0=y→ZhX (f+1) x0 v s (0:Nat)=y:=by
  intro f s hs y hy
  have ha:iop .add .i64 (x0.length:Int) (s:Int)=((x0.length+s:Nat):Int):=by rw [JC (by omega) (by omega)];omega
  rw [ZgU,if_neg (by decide),ha,Zj ⟨by omega,by unfold Yc;omega⟩,Zj (Int.le_refl _),Zj (Int.le_refl _),Int.toNat_natCast]
  exact hy
 intro k
 induction k with
 | zero =>
  intro fuel r s hr hf hs y hy
  obtain ⟨f,rfl⟩:∃ f,fuel=f+1:=⟨fuel-1,by omega⟩
  have h0:r=0:=by simpa using hr
  subst h0
  exact exit f s (by omega) y hy
 | succ k ih =>
  intro fuel r s hr hf hs y hy
  obtain ⟨f,rfl⟩:∃ f,fuel=f+1:=⟨fuel-1,by omega⟩
  by_cases h0:r=0
  ·subst h0
   exact exit f s (by omega) y hy
  ·have hc:cnt (k+1) r=1+cnt k (r / 128):=by rw [cnt,if_neg h0]
   have hd:r / 128 < 128^k:=by
    rw [Nat.pow_succ] at hr
    exact Nat.div_lt_of_lt_mul (by omega)
   have a4:iop .add .i64 (s:Int) 1=((s+1:Nat):Int):=by rw [JC (by omega) (by omega)];omega
   rw [ZgU,if_pos (by simp only [CQ];omega),Zj (by decide),a4,ZAJ]
   refine ih f (r / 128) (s+1) hd (by omega) (by omega) y ?_
   rw [hc] at hy
   rw [show s+1+cnt k (r / 128)=s+(1+cnt k (r / 128)) by omega]
   exact hy
theorem ZzM (l:List Int) {size:Nat} (hl:l.length+size≤200000000000):∀ (m fuel i v:Nat) (done:List Int),size=i+m→m < fuel→done.length=i→
  Zdj fuel (Zc l) (v:Int) (size:Int) (Zc (l++done++List.replicate m 0)) (i:Int)=some (Zc (l++done++uvm m v)):=by
 intro m
 induction m with
 | zero =>
  intro fuel i v done h hf hd
  obtain ⟨f,rfl⟩:∃ f,fuel=f+1:=⟨fuel-1,by omega⟩
  rw [Zg8,if_neg (by simp only [CQ];omega)]
  simp [uvm]
 | succ m ih =>
  intro fuel i v done h hf hd
  obtain ⟨f,rfl⟩:∃ f,fuel=f+1:=⟨fuel-1,by omega⟩
  have a1:iop .sub .i64 (size:Int) 1=((size-1:Nat):Int):=by rw [Ziq (by omega) (by omega)];omega
  have a2:iop .add .i64 (l.length:Int) (i:Int)=((l.length+i:Nat):Int):=by rw [JC (by omega) (by omega)];omega
  have a3:iop .add .i64 (i:Int) 1=((i+1:Nat):Int):=by rw [JC (by omega) (by omega)];omega
  have hat:(l++done).length=l.length+i:=by simp [hd]
  have hset:∀ z:Int,Jc (Zc (l++done++List.replicate (m+1) 0)) (l.length+i) 0 [AV.val (.int .u8 z)]=Zc (l++(done++[z])++List.replicate m 0):=by
   intro z
   have:=ZkJ (l++done) (List.replicate m 0) 0 z
   rw [hat] at this
   rw [List.replicate_succ,this]
   simp [List.append_assoc]
  have hL:List.length (Zc (l++done++List.replicate (m+1) 0))=l.length+size:=by rw [Z9];simp [hd];omega
  rw [Zg8,if_pos (by simp only [CQ];omega),hL,Z9 l,a1,a2,a3,ZAJ,Int.toNat_natCast,ZxH,ZAA (Nat.mod_lt _ (by decide)),hset,hset]
  cases m with
  | zero =>
   rw [if_neg (by simp only [CQ];omega),Zj (by omega),Zj (by omega),Zj (by omega),Zj (by omega),Zj (by decide)]
   have:=ih f (i+1) (v / 128) (done++[((v % 128:Nat):Int)]) (by omega) (by omega) (by simp [hd])
   rw [this]
   simp [uvm]
  | succ m =>
   rw [if_pos (by simp only [CQ];omega),Zj (by omega),Zj (by omega),Zj (by omega),Zj (by omega),Zj (by decide)]
   have:=ih f (i+1) (v / 128) (done++[((v % 128+128:Nat):Int)]) (by omega) (by omega) (by simp [hd])
   rw [this]
   simp [uvm,List.append_assoc]
theorem Zo1 (l:List Int) (n:Nat):Zme (List.replicate (l.length+n) [AV.val (.int .u8 0)]) (Zc l)=Zc (l++List.replicate n 0):=by
 unfold Zme
 rw [List.length_replicate,List.take_of_length_le (by rw [Z9];omega),Z9,List.drop_replicate,ZdJ]
 have:l.length+n-l.length=n:=by omega
 rw [this]
 congr 1
 simp [Zc,u8c]
theorem ZC6 (l:List Int) (hl:l.length≤100000000000) (v:Nat) (hv:v < 2^64):ZsN (Zc l) v=some (Zc (l++uv v)):=by
 rw [ZsV,Zj (by decide),ZAJ]
 have h64:(2:Nat)^64=18446744073709551616:=by decide
 have h128:(128:Nat)^10=1180591620717411303424:=by decide
 refine ZCE (by rw [Z9];exact hl) 10 Zr (v / 128) 1 (by omega) (Kr (by decide)) (by decide) _ ?_
 rw [Z9,Zo1]
 have hc:=ZnW 10 (v / 128)
 have:=ZzM l (size:=1+cnt 10 (v / 128)) (by omega) (1+cnt 10 (v / 128)) Zr 0 v [] (by omega) (Kr (by omega)) rfl
 rw [List.append_nil] at this
 exact this
theorem Kz (v:Nat):(uv v).length=uvN v:=Zm3 _ _
theorem Va (v:Nat):uvN v≤11:=by have:=ZnW 10 (v / 128);unfold uvN;omega
theorem WF (v:Nat):YN (uv v):=ZhS _ _
def idB (i:Id):List Int:=uv i.core.toNat++uv i.op.toNat++uv i.part.toNat
theorem Y0 (i:Id):(idB i).length≤33:=by
 have h1:=Va i.core.toNat
 have h2:=Va i.op.toNat
 have h3:=Va i.part.toNat
 simp only [idB,List.length_append,Kz]
 omega
theorem Zg9 (l:List Int) (hl:l.length≤100000000000) (z:Int) (h0:0≤z) (h1:z < 2^63):ZsN (Zc l) (IntKind.wrap .u64 z)=some (Zc (l++uv z.toNat)):=by
 have h63:(2:Int)^63=9223372036854775808:=by decide
 have h64:(2:Int)^64=18446744073709551616:=by decide
 have h64':(2:Nat)^64=18446744073709551616:=by decide
 have e:IntKind.wrap .u64 z=((z.toNat:Nat):Int):=by rw [Ys h0 (by omega)];omega
 rw [e]
 exact ZC6 l hl z.toNat (by omega)
theorem Zjt {i:Id} (h:Vw i=true):0≤i.core∧i.core < 32∧1≤i.op∧i.op≤1073741824∧0≤i.part∧i.part < 8:=by simpa [Vw] using h
theorem ZC9 (l:List Int) (hl:l.length≤90000000000) (i:Id) (hi:Vw i=true):Zxq (Zc l) i.core i.op i.part=some (Zc (l++idB i)):=by
 obtain ⟨h1,h2,h3,h4,h5,h6⟩:=Zjt hi
 obtain ⟨f,hf⟩:=Zmz
 have h63:(2:Int)^63=9223372036854775808:=by decide
 have u1:=Va i.core.toNat
 have u2:=Va i.op.toNat
 have e:(((E0++[[AV.val (.int .i64 i.core)]])++[[AV.val (.int .i64 i.op)]])++[[AV.val (.int .i64 i.part)]]) = [Wx i.core,Wx i.op,Wx i.part]:=rfl
 have e1:iop .add .i64 0 1=1:=by decide
 have e2:iop .add .i64 1 1=2:=by decide
 have e3:iop .add .i64 2 1=3:=by decide
 have hlen:(([Wx i.core,Wx i.op,Wx i.part] : List (List AV)).length:Int)=3:=rfl
 rw [ZmY,e,hf,hlen]
 rw [Kn,if_pos (by decide),YX (sh:=[.int .i64]) (cs:=Wx i.core) (r:=i.core) _ (by decide) rfl rfl,Zg9 l (by omega) i.core h1 (by omega),Option.bind_some,e1,
  Kn,if_pos (by decide),YX (sh:=[.int .i64]) (cs:=Wx i.op) (r:=i.op) _ (by decide) rfl rfl,Zg9 _ (by rw [List.length_append,Kz];omega) i.op (by omega) (by omega),Option.bind_some,e2,
  Kn,if_pos (by decide),YX (sh:=[.int .i64]) (cs:=Wx i.part) (r:=i.part) _ (by decide) rfl rfl,Zg9 _ (by rw [List.length_append,List.length_append,Kz,Kz];omega) i.part (by omega) (by omega),Option.bind_some,e3,
  Kn,if_neg (by decide)]
 simp [idB,List.append_assoc]
def ZkY (n:Yz):List Int:=idB n.id++uv n.path.length++(n.path.map idB).flatten++YK n.cap
def ZbB (n:Yz):List Int:=if ZD n=true then ZkY n else []
def ZqG (n:Yz):Int:=if ZD n=true then 0 else 1
theorem ZcQ {n:Yz} (h:ZD n=true):Vw n.id=true∧Ka n.cap=true∧n.path.length≤8∧∀ i,i < n.path.length→Vg n i=true:=by
 simp only [ZD,Bool.and_eq_true,decide_eq_true_eq,List.all_eq_true,List.mem_range] at h
 exact ⟨h.1.1.1,h.1.1.2,h.1.2,h.2⟩
theorem Znn {n:Yz} (h:ZD n=true) (x:Id) (hx:x∈n.path):Vw x=true:=by
 obtain ⟨i,hi⟩:=List.mem_iff_getElem?.1 hx
 have:=(ZcQ h).2.2.2 i (List.getElem?_eq_some_iff.1 hi).1
 unfold Vg at this
 rw [hi] at this
 simp only [Bool.and_eq_true] at this
 exact this.1.1
theorem ZEP (n:Yz) (hn:ZD n=true):∀ (j i fuel:Nat) (acc:List Int),n.path.length=i+j→j < fuel→acc.length≤1000+33*i→
  ZjW fuel n.id.core n.id.op n.id.part (Zb n.path) n.cap.kind n.cap.base n.cap.bits n.cap.rights n.cap.width n.cap.level n.cap.device (Zc acc) (Zb n.path) (n.path.length:Int) i =
   some (Zc (acc++((n.path.drop i).map idB).flatten++YK n.cap),0):=by
 obtain ⟨h1,h2,h3,h4⟩:=ZcQ hn
 intro j
 induction j with
 | zero =>
  intro i fuel acc h hf ha
  obtain ⟨f,rfl⟩:∃ f,fuel=f+1:=⟨fuel-1,by omega⟩
  have hb:Zkm ⟨n.cap.kind,n.cap.base,n.cap.bits,n.cap.rights,n.cap.width,n.cap.level,n.cap.device⟩=YK n.cap:=by
   show Zkm n.cap=_
   unfold Zkm
   rw [if_pos h2]
  rw [ZgX,if_neg (by simp only [CQ];omega),ZEK,Option.bind_some,hb,Zj (room1 (by rw [Z9];omega) (by rw [Z9];simp [YK])),List.drop_of_length_le (by omega)]
  simp [ZdJ]
 | succ j ih =>
  intro i fuel acc h hf ha
  obtain ⟨f,rfl⟩:∃ f,fuel=f+1:=⟨fuel-1,by omega⟩
  have hi:i < n.path.length:=by omega
  have hat:n.path[(i:Int).toNat]? = some n.path[i]:=by simp
  have a4:iop .add .i64 i 1=((i+1:Nat):Int):=by rw [JC (by omega) (by omega)];omega
  have hx:=Znn hn n.path[i] (List.getElem_mem hi)
  have hle:=Y0 n.path[i]
  rw [ZgX,if_pos (by simp only [CQ];omega),VS _ (by omega) hat,ZC9 acc (by omega) _ hx,Option.bind_some,a4,ih (i+1) f _ (by omega) (by omega) (by rw [List.length_append];omega),List.drop_eq_getElem_cons hi]
  simp only [List.map_cons,List.flatten_cons,List.append_assoc]
theorem ZEU (n:Yz) (hl:n.path.length < 2^63):ZzY n.id.core n.id.op n.id.part (Zb n.path) n.cap.kind n.cap.base n.cap.bits n.cap.rights n.cap.width n.cap.level n.cap.device=some (Zc (ZbB n),ZqG n):=by
 rw [ZrB,s95 n hl,Option.bind_some]
 unfold ZbB ZqG
 cases hn:ZD n with
 | false => rfl
 | true =>
  obtain ⟨h1,h2,h3,h4⟩:=ZcQ hn
  have hle:=Y0 n.id
  have hu:=Va n.path.length
  have e0:E0=Zc []:=rfl
  rw [if_neg (by simp),e0,ZC9 [] (by simp) n.id h1,Option.bind_some,List.nil_append,ZJ,Zg9 _ (by omega) _ (by omega) (by omega),Option.bind_some,Int.toNat_natCast,if_pos rfl,if_pos rfl]
  have:=ZEP n hn n.path.length 0 Zr (idB n.id++uv n.path.length) (by omega) (Kr (by omega)) (by rw [List.length_append,Kz];omega)
  refine this.trans ?_
  rfl
end Go.Proofs.YtjldbnbdcmfbmaaGreat
end

section
namespace Go.Proofs.YtjldbnbdcmfbmaaGreat
open Go Go.AM
set_option linter.unusedSimpArgs false
set_option linter.unusedVariables false
set_option maxRecDepth 100000
theorem ZjY:∀ (k r:Nat),r < 128^k→cnt (k+1) r=cnt k r
 | 0, r, h => by
  have:r=0:=by simpa using h
  subst this
  rfl
 | k + 1, r, h => by
  have e:∀ (m r:Nat),cnt (m+1) r=if r=0 then 0 else 1+cnt m (r / 128):=fun _ _=>rfl
  rw [e (k+1) r,e k r]
  by_cases h0:r=0
  ·rw [if_pos h0,if_pos h0]
  ·have hd:r / 128 < 128^k:=by
    rw [Nat.pow_succ] at h
    exact Nat.div_lt_of_lt_mul (by omega)
   rw [if_neg h0,if_neg h0,ZjY k _ hd]
theorem ZfI {v:Nat} (hv:v < 2^64):uv v=if v < 128 then [(v:Int)] else ((v % 128+128:Nat):Int)::uv (v / 128):=by
 have h64:(2:Nat)^64=18446744073709551616:=by decide
 by_cases h:v < 128
 ·rw [if_pos h]
  have h0:v / 128=0:=by omega
  have hn:uvN v=1:=by rw [uvN,h0];rfl
  have hm:v % 128=v:=by omega
  rw [uv,hn,uvm,hm]
 ·rw [if_neg h]
  have h0:v / 128≠0:=by omega
  have hf:cnt 10 (v / 128 / 128)=cnt 9 (v / 128 / 128):=ZjY 9 _ (by
   have:(128:Nat)^9=9223372036854775808:=by decide
   omega)
  have hn:uvN v=uvN (v / 128)+1:=by rw [uvN,uvN,hf,cnt,if_neg h0];omega
  have hn':uvN v=(cnt 10 (v / 128 / 128))+2:=by rw [hn,uvN];omega
  rw [uv,hn',uvm,uv,uvN]
  rw [show 1+cnt 10 (v / 128 / 128)=cnt 10 (v / 128 / 128)+1 by omega]
theorem ZEp:∀ (k fuel v:Nat) (l:List Int),v < 2^63→v < 128^(k+1)→k < fuel→l.length+k≤100000000000→ZhO fuel (Zc l) (v:Int)=some (Zc (l++uv v)):=by
 have h63:(2:Nat)^63=9223372036854775808:=by decide
 have h64:(2:Nat)^64=18446744073709551616:=by decide
 have snoc:∀ (l:List Int) (z:Int),Zc l++(E0++[[AV.val (.int .u8 z)]])=Zc (l++[z]):=by intro l z;simp [Zc,u8c]
 have small:∀ (f v:Nat) (l:List Int),v < 128→l.length≤100000000000→ZhO (f+1) (Zc l) (v:Int)=some (Zc (l++uv v)):=by
  intro f v l hv hl
  have w:IntKind.wrap .u8 (v:Int)=(v:Int):=by rw [ZcK];omega
  rw [Zg4,if_neg (by simp only [CQ];omega),Zj (room1 (by rw [Z9];omega) (by simp)),w,snoc,ZfI (by omega),if_pos hv]
 intro k
 induction k with
 | zero =>
  intro fuel v l h1 h2 hf hl
  obtain ⟨f,rfl⟩:∃ f,fuel=f+1:=⟨fuel-1,by omega⟩
  exact small f v l (by simpa using h2) (by omega)
 | succ k ih =>
  intro fuel v l h1 h2 hf hl
  obtain ⟨f,rfl⟩:∃ f,fuel=f+1:=⟨fuel-1,by omega⟩
  by_cases hv:v < 128
  ·exact small f v l hv (by omega)
  ·have hd:v / 128 < 128^(k+1):=by
    rw [Nat.pow_succ] at h2
    exact Nat.div_lt_of_lt_mul (by omega)
   have e1:iop .rem .i64 (v:Int) 128=((v % 128:Nat):Int):=by
    show (v:Int).tmod 128=_
    rw [Int.tmod_eq_emod_of_nonneg (by omega)]
    omega
   have e2:iop .add .i64 ((v % 128:Nat):Int) 128=((v % 128+128:Nat):Int):=by rw [JC (by omega) (by omega)];omega
   have e3:IntKind.wrap .u8 ((v % 128+128:Nat):Int)=((v % 128+128:Nat):Int):=by rw [ZcK];omega
   have e4:iop .quo .i64 (v:Int) 128=((v / 128:Nat):Int):=by
    show IntKind.wrap .i64 ((v:Int).tdiv 128)=_
    rw [Int.tdiv_eq_ediv_of_nonneg (by omega),Zah (by omega) (by omega)]
    omega
   rw [Zg4,if_pos (by simp only [CQ];omega),Zj (by decide),Zj (room1 (by rw [Z9];omega) (by simp)),Zj (by decide),e1,e2,e3,e4,snoc,
    ih f (v / 128) _ (by omega) hd (by omega) (by rw [List.length_append];simp;omega),ZfI (v:=v) (by omega),if_neg hv]
   simp [List.append_assoc]
theorem Zrn (l:List Int) (hl:l.length≤90000000000) (z:Int) (h0:0≤z) (h1:z < 2^63):ZtI (Zc l) z=some (Zc (l++uv z.toNat)):=by
 have h63:(2:Int)^63=9223372036854775808:=by decide
 have h63':(2:Nat)^63=9223372036854775808:=by decide
 have h128:(128:Nat)^11=151115727451828646838272:=by decide
 have e:z=((z.toNat:Nat):Int):=by omega
 rw [ZrR]
 have:=ZEp 10 Zr z.toNat l (by omega) (by omega) (Kr (by decide)) (by omega)
 rw [← e] at this
 exact this
theorem s43 (l:List Int) (hl:l.length≤80000000000) (i:Id) (hi:Vw i=true):g43 (Zc l) i.core i.op i.part=some (Zc (l++idB i)):=by
 obtain ⟨h1,h2,h3,h4,h5,h6⟩:=Zjt hi
 have h63:(2:Int)^63=9223372036854775808:=by decide
 have u1:=Va i.core.toNat
 have u2:=Va i.op.toNat
 rw [Zrg,Zrn l (by omega) i.core h1 (by omega),Option.bind_some,Zrn _ (by rw [List.length_append,Kz];omega) i.op (by omega) (by omega),Option.bind_some,
  Zrn _ (by rw [List.length_append,List.length_append,Kz,Kz];omega) i.part (by omega) (by omega),Option.bind_some]
 simp [idB,List.append_assoc]
theorem ZD1 (n:Yz) (hn:ZD n=true):∀ (j i fuel:Nat) (acc:List Int),n.path.length=i+j→j < fuel→acc.length≤1000+33*i→
  ZkQ fuel n.id.core n.id.op n.id.part (Zb n.path) n.cap.kind n.cap.base n.cap.bits n.cap.rights n.cap.width n.cap.level n.cap.device (Zc acc) i =
   some (Zc (acc++((n.path.drop i).map idB).flatten++YK n.cap),0):=by
 obtain ⟨h1,h2,h3,h4⟩:=ZcQ hn
 intro j
 induction j with
 | zero =>
  intro i fuel acc h hf ha
  obtain ⟨f,rfl⟩:∃ f,fuel=f+1:=⟨fuel-1,by omega⟩
  have hb:Zkm ⟨n.cap.kind,n.cap.base,n.cap.bits,n.cap.rights,n.cap.width,n.cap.level,n.cap.device⟩=YK n.cap:=by
   show Zkm n.cap=_
   unfold Zkm
   rw [if_pos h2]
  rw [Zhx,if_neg (by simp only [CQ,ZJ];omega),ZEl,Option.bind_some,hb,Zj (room1 (by rw [Z9];omega) (by rw [Z9];simp [YK])),List.drop_of_length_le (by omega)]
  simp [ZdJ]
 | succ j ih =>
  intro i fuel acc h hf ha
  obtain ⟨f,rfl⟩:∃ f,fuel=f+1:=⟨fuel-1,by omega⟩
  have hi:i < n.path.length:=by omega
  have hat:n.path[(i:Int).toNat]? = some n.path[i]:=by simp
  have a4:iop .add .i64 i 1=((i+1:Nat):Int):=by rw [JC (by omega) (by omega)];omega
  have hx:=Znn hn n.path[i] (List.getElem_mem hi)
  have hle:=Y0 n.path[i]
  rw [Zhx,if_pos (by simp only [CQ,ZJ];omega),VS _ (by omega) hat,s43 acc (by omega) _ hx,Option.bind_some,a4,ih (i+1) f _ (by omega) (by omega) (by rw [List.length_append];omega),List.drop_eq_getElem_cons hi]
  simp only [List.map_cons,List.flatten_cons,List.append_assoc]
theorem ZE6 (n:Yz) (hl:n.path.length < 2^63):ZA4 n.id.core n.id.op n.id.part (Zb n.path) n.cap.kind n.cap.base n.cap.bits n.cap.rights n.cap.width n.cap.level n.cap.device=some (Zc (ZbB n),ZqG n):=by
 rw [ZrD,s61 n hl,Option.bind_some]
 unfold ZbB ZqG
 cases hn:ZD n with
 | false => rfl
 | true =>
  obtain ⟨h1,h2,h3,h4⟩:=ZcQ hn
  have hle:=Y0 n.id
  have hu:=Va n.path.length
  have e0:E0=Zc []:=rfl
  rw [if_neg (by simp),e0,s43 [] (by simp) n.id h1,Option.bind_some,List.nil_append,ZJ,Zrn _ (by omega) _ (by omega) (by omega),Option.bind_some,Int.toNat_natCast,if_pos rfl,if_pos rfl]
  have:=ZD1 n hn n.path.length 0 Zr (idB n.id++uv n.path.length) (by omega) (Kr (by omega)) (by rw [List.length_append,Kz];omega)
  refine this.trans ?_
  rfl
end Go.Proofs.YtjldbnbdcmfbmaaGreat
end

section
namespace Go.Proofs.YtjldbnbdcmfbmaaGreat
open Go Go.AM
set_option linter.unusedSimpArgs false
set_option linter.unusedVariables false
set_option maxRecDepth 100000
theorem ZmR (z:Int):0≤IntKind.u64.wrap z∧IntKind.u64.wrap z < 2^64:=by
 have hs:IntKind.u64.signed=false:=rfl
 have hb:IntKind.u64.bits=64:=rfl
 have h64:(2:Int)^64=18446744073709551616:=by decide
 simp only [IntKind.wrap,hs,hb,Bool.false_and,if_false,Bool.false_eq_true,h64]
 omega
theorem Zql (a b:Int):iop .xor .u64 a b=(((BitVec.ofInt 64 a ^^^ BitVec.ofInt 64 b).toNat:Nat):Int):=by
 have h:=(BitVec.ofInt 64 a ^^^ BitVec.ofInt 64 b).isLt
 show IntKind.u64.wrap (((BitVec.ofInt 64 a ^^^ BitVec.ofInt 64 b).toNat:Nat):Int)=_
 exact Ys (by omega) (by have:(2:Int)^64=((2^64:Nat):Int):=(by decide);omega)
theorem ZlH (a b:Int):iop .xor .u64 a b=iop .xor .u64 b a:=by rw [Zql,Zql,BitVec.xor_comm]
theorem Zmg {a:Int} (h0:0≤a) (h1:a < 2^64):iop .xor .u64 a 0=a:=by
 have h64:(2:Int)^64=18446744073709551616:=by decide
 have e:BitVec.ofInt 64 (0:Int)=0#64:=rfl
 rw [Zql,e,BitVec.xor_zero,BitVec.toNat_ofInt]
 omega
def sgV (z:Int):Int:=if z < 0 then iop .xor .u64 18446744073709551615 (iop .shl .u64 (IntKind.wrap .u64 z) 1) else iop .shl .u64 (IntKind.wrap .u64 z) 1
theorem ZiD (z:Int):0≤iop .shl .u64 (IntKind.wrap .u64 z) 1∧iop .shl .u64 (IntKind.wrap .u64 z) 1 < 2^64:=ZmR _
theorem ZmP (z:Int):0≤sgV z∧sgV z < 2^64:=by
 unfold sgV
 split
 ·rw [Zql]
  have h:=(BitVec.ofInt 64 18446744073709551615 ^^^ BitVec.ofInt 64 (iop .shl .u64 (IntKind.wrap .u64 z) 1)).isLt
  have:(2:Int)^64=((2^64:Nat):Int):=by decide
  omega
 ·exact ZiD z
theorem Zt4 {z:Int} (h0 : -(2^63:Int)≤z) (h1:z < 2^63):iop .xor .u64 (iop .shl .u64 (IntKind.wrap .u64 z) 1) (IntKind.wrap .u64 (iop .shr .i64 z 63))=sgV z:=by
 have h63:(2:Int)^63=9223372036854775808:=by decide
 have e:iop .shr .i64 z 63=z / 2^63:=ZcV (n:=63) (by decide)
 rw [e]
 unfold sgV
 by_cases hz:z < 0
 ·have e2:z / 2^63 = -1:=by omega
  have e3:IntKind.u64.wrap (-1)=18446744073709551615:=by decide
  rw [e2,e3,if_pos hz,ZlH]
 ·have e2:z / 2^63=0:=by omega
  have e3:IntKind.u64.wrap 0=0:=by decide
  rw [e2,e3,if_neg hz,Zmg (ZiD z).1 (ZiD z).2]
def sgB (z:Int):List Int:=uv (sgV z).toNat
theorem ZEe (l:List Int) (hl:l.length≤80000000000) {z:Int} (h0 : -(2^63:Int)≤z) (h1:z < 2^63):ZAU (Zc l) z=some (Zc (l++sgB z)):=by
 have hr:=ZmP z
 have h64:(2:Int)^64=((2^64:Nat):Int):=by decide
 have e:sgV z=(((sgV z).toNat:Nat):Int):=by omega
 rw [Ztu,Zj (by decide),Zj (by decide),Zt4 h0 h1,e,ZC6 l (by omega) _ (by omega),Option.bind_some]
 rfl
theorem Ve {α:Type} {F:Nat→List (List AV)→Int→Option (List (List AV))} {l:List α} (c:α→List Int) (b lim:Nat) (hn:l.length < 2^63) (hB:∀ x∈l,(c x).length≤b)
  (step:∀ (k i:Nat) (acc:List Int) (hi:i < l.length),acc.length≤lim→F (k+1) (Zc acc) (i:Int)=F k (Zc (acc++c l[i])) ((i+1:Nat):Int))
  (last:∀ (k i:Nat) (acc:List Int),l.length≤i→F (k+1) (Zc acc) (i:Int)=some (Zc acc)) (acc:List Int) (ha:acc.length+b*l.length≤lim) :
  F Zr (Zc acc) 0=some (Zc (acc++(l.map c).flatten)):=by
 have key:∀ (j i fuel:Nat) (acc:List Int),l.length≤i+j→j < fuel→acc.length+b*(l.length-i)≤lim→F fuel (Zc acc) (i:Int)=some (Zc (acc++((l.drop i).map c).flatten)):=by
  intro j
  induction j with
  | zero =>
   intro i fuel acc h hf _
   obtain ⟨f,rfl⟩:∃ f,fuel=f+1:=⟨fuel-1,by omega⟩
   rw [last f i acc (by omega),List.drop_of_length_le (by omega)]
   simp
  | succ j ih =>
   intro i fuel acc h hf hb
   obtain ⟨f,rfl⟩:∃ f,fuel=f+1:=⟨fuel-1,by omega⟩
   by_cases hi:i < l.length
   ·have hx:=hB _ (List.getElem_mem hi)
    have hm:b*(l.length-i)=b+b*(l.length-(i+1)):=by
     rw [show l.length-i=(l.length-(i+1))+1 by omega,Nat.mul_add,Nat.mul_one,Nat.add_comm]
    rw [step f i acc hi (by omega),ih (i+1) f (acc++c l[i]) (by omega) (by omega) (by rw [List.length_append];omega),List.drop_eq_getElem_cons hi,List.map_cons,List.flatten_cons,List.append_assoc]
   ·rw [last f i acc (by omega),List.drop_of_length_le (by omega)]
    simp
 have:=key l.length 0 Zr acc (by omega) (by have:=J5 hn;omega) (by simpa using ha)
 simpa using this
theorem ZrU (v:Nat):(uv v).length≤11:=by rw [Kz];exact Va v
def nB (z:Int):List Int:=uv z.toNat
theorem ZP (z:Int):(nB z).length≤11:=ZrU _
theorem s38 (l:List Int) (hl:l.length≤80000000000) {z:Int} (h0:0≤z) (h1:z < 2^63):g38 (Zc l) z=some (Zc (l++nB z)):=by
 rw [ZvT,Zg9 l (by omega) z h0 h1];rfl
theorem s40 (l:List Int) (hl:l.length≤80000000000) {z:Int} (h0:0≤z) (h1:z < 2^63):g40 (Zc l) z=some (Zc (l++nB z)):=by
 rw [Zvz,Zrn l (by omega) z h0 h1];rfl
structure Id.Small (i:Id):Prop where
 c0:0≤i.core
 c1:i.core < 2^40
 o0:0≤i.op
 o1:i.op < 2^40
 p0:0≤i.part
 p1:i.part < 2^40
theorem Zhh {i:Id} (h:Vw i=true):i.Small:=by
 obtain ⟨h1,h2,h3,h4,h5,h6⟩:=Zjt h
 have:(2:Int)^40=1099511627776:=by decide
 exact ⟨h1,by omega,by omega,by omega,h5,by omega⟩
theorem Zf3:zid.Small:=⟨by decide,by decide,by decide,by decide,by decide,by decide⟩
theorem ZvH (l:List Int) (hl:l.length≤80000000000) {i:Id} (hi:i.Small):Zsu (Zc l) i.core i.op i.part=some (Zc (l++idB i)):=by
 obtain ⟨h1,h2,h3,h4,h5,h6⟩:=hi
 obtain ⟨f,hf⟩:=Zmz
 have h63:(2:Int)^63=9223372036854775808:=by decide
 have h40:(2:Int)^40=1099511627776:=by decide
 have u1:=Va i.core.toNat
 have u2:=Va i.op.toNat
 have e:(((E0++[[AV.val (.int .i64 i.core)]])++[[AV.val (.int .i64 i.op)]])++[[AV.val (.int .i64 i.part)]]) = [Wx i.core,Wx i.op,Wx i.part]:=rfl
 have e1:iop .add .i64 0 1=1:=by decide
 have e2:iop .add .i64 1 1=2:=by decide
 have e3:iop .add .i64 2 1=3:=by decide
 have hlen:(([Wx i.core,Wx i.op,Wx i.part] : List (List AV)).length:Int)=3:=rfl
 rw [Zt1,ZmY,e,hf,hlen]
 rw [Kn,if_pos (by decide),YX (sh:=[.int .i64]) (cs:=Wx i.core) (r:=i.core) _ (by decide) rfl rfl,Zg9 l (by omega) i.core h1 (by omega),Option.bind_some,e1,
  Kn,if_pos (by decide),YX (sh:=[.int .i64]) (cs:=Wx i.op) (r:=i.op) _ (by decide) rfl rfl,Zg9 _ (by rw [List.length_append,Kz];omega) i.op (by omega) (by omega),Option.bind_some,e2,
  Kn,if_pos (by decide),YX (sh:=[.int .i64]) (cs:=Wx i.part) (r:=i.part) _ (by decide) rfl rfl,Zg9 _ (by rw [List.length_append,List.length_append,Kz,Kz];omega) i.part (by omega) (by omega),Option.bind_some,e3,
  Kn,if_neg (by decide),Option.bind_some]
 simp [idB,List.append_assoc]
theorem Zlb (l:List Int) (hl:l.length≤80000000000) {i:Id} (hi:i.Small):g43 (Zc l) i.core i.op i.part=some (Zc (l++idB i)):=by
 obtain ⟨h1,h2,h3,h4,h5,h6⟩:=hi
 have h63:(2:Int)^63=9223372036854775808:=by decide
 have h40:(2:Int)^40=1099511627776:=by decide
 have u1:=Va i.core.toNat
 have u2:=Va i.op.toNat
 rw [Zrg,Zrn l (by omega) i.core h1 (by omega),Option.bind_some,Zrn _ (by rw [List.length_append,Kz];omega) i.op (by omega) (by omega),Option.bind_some,
  Zrn _ (by rw [List.length_append,List.length_append,Kz,Kz];omega) i.part (by omega) (by omega),Option.bind_some]
 simp [idB,List.append_assoc]
end Go.Proofs.YtjldbnbdcmfbmaaGreat
end

section
namespace Go.Proofs.YtjldbnbdcmfbmaaGreat
open Go Go.AM
set_option linter.unusedSimpArgs false
set_option linter.unusedVariables false
set_option maxRecDepth 100000
theorem ZFk:∀ (k fuel v:Nat) (l:List Int),v < 2^64→v < 128^(k+1)→k < fuel→l.length+k≤100000000000→ZeD fuel (Zc l) (v:Int)=some (Zc (l++uv v)):=by
 have h63:(2:Nat)^63=9223372036854775808:=by decide
 have h64:(2:Nat)^64=18446744073709551616:=by decide
 have snoc:∀ (l:List Int) (z:Int),Zc l++(E0++[[AV.val (.int .u8 z)]])=Zc (l++[z]):=by intro l z;simp [Zc,u8c]
 have small:∀ (f v:Nat) (l:List Int),v < 128→l.length≤100000000000→ZeD (f+1) (Zc l) (v:Int)=some (Zc (l++uv v)):=by
  intro f v l hv hl
  have w:IntKind.wrap .u8 (v:Int)=(v:Int):=by rw [ZcK];omega
  rw [ZgA,if_neg (by simp only [JN,J1,JV,JI,JJ,J0,JL,JK,JM,J3,JZ,JX,Bool.not_eq_true,Bool.not_eq_false,Bool.not_eq_true',Bool.not_eq_false',Bool.and_eq_true,Bool.or_eq_true,decide_eq_true_eq,decide_eq_false_iff_not,Bool.false_eq_true,Bool.true_eq_false,Option.bind_some,Option.some.injEq,false_iff,true_iff,iff_false,iff_true];omega),Zj (room1 (by rw [Z9];omega) (by simp)),w,snoc,ZfI (by omega),if_pos hv]
 intro k
 induction k with
 | zero =>
  intro fuel v l h1 h2 hf hl
  obtain ⟨f,rfl⟩:∃ f,fuel=f+1:=⟨fuel-1,by omega⟩
  exact small f v l (by simpa using h2) (by omega)
 | succ k ih =>
  intro fuel v l h1 h2 hf hl
  obtain ⟨f,rfl⟩:∃ f,fuel=f+1:=⟨fuel-1,by omega⟩
  by_cases hv:v < 128
  ·exact small f v l hv (by omega)
  ·have hd:v / 128 < 128^(k+1):=by
    rw [Nat.pow_succ] at h2
    exact Nat.div_lt_of_lt_mul (by omega)
   have e1:iop .rem .u64 (v:Int) 128=((v % 128:Nat):Int):=by
    show (v:Int).tmod 128=_
    rw [Int.tmod_eq_emod_of_nonneg (by omega)]
    omega
   have e2:iop .add .u64 ((v % 128:Nat):Int) 128=((v % 128+128:Nat):Int):=by (show IntKind.wrap .u64 _=_);rw [Ys (by omega) (by omega)];omega
   have e3:IntKind.wrap .u8 ((v % 128+128:Nat):Int)=((v % 128+128:Nat):Int):=by rw [ZcK];omega
   have e4:iop .quo .u64 (v:Int) 128=((v / 128:Nat):Int):=by
    show IntKind.wrap .u64 ((v:Int).tdiv 128)=_
    rw [Int.tdiv_eq_ediv_of_nonneg (by omega),Ys (by omega) (by omega)]
    omega
   rw [ZgA,if_pos (by simp only [JN,J1,JV,JI,JJ,J0,JL,JK,JM,J3,JZ,JX,Bool.not_eq_true,Bool.not_eq_false,Bool.not_eq_true',Bool.not_eq_false',Bool.and_eq_true,Bool.or_eq_true,decide_eq_true_eq,decide_eq_false_iff_not,Bool.false_eq_true,Bool.true_eq_false,Option.bind_some,Option.some.injEq,false_iff,true_iff,iff_false,iff_true];omega),Zj (by decide),Zj (room1 (by rw [Z9];omega) (by simp)),Zj (by decide),e1,e2,e3,e4,snoc,
    ih f (v / 128) _ (by omega) hd (by omega) (by rw [List.length_append];simp;omega),ZfI (v:=v) (by omega),if_neg hv]
   simp [List.append_assoc]
theorem ZEV (l:List Int) (hl:l.length≤80000000000) (z:Int):ZAb (Zc l) z=some (Zc (l++sgB z)):=by
 have hr:=ZmP z
 have h64:(2:Int)^64=((2^64:Nat):Int):=by decide
 have h64':(2:Nat)^64=18446744073709551616:=by decide
 have h128:(128:Nat)^11=151115727451828646838272:=by decide
 have e:sgV z=(((sgV z).toNat:Nat):Int):=by omega
 have:=ZFk 10 Zr (sgV z).toNat l (by omega) (by omega) (Kr (by decide)) (by omega)
 rw [← e] at this
 rw [Zr6,Zj (by decide)]
 unfold sgV at this
 by_cases hz:z < 0
 ·rw [if_pos (show (cop .lss z 0)=true by simp only [CQ];exact hz)]
  rw [if_pos hz] at this
  refine this.trans ?_
  unfold sgB sgV
  rw [if_pos hz]
 ·rw [if_neg (show ¬ (cop .lss z 0)=true by simp only [CQ];omega)]
  rw [if_neg hz] at this
  refine this.trans ?_
  unfold sgB sgV
  rw [if_neg hz]
def ZmI (c:Call):List Int:=((Yr c).map sgB).flatten
theorem ZnJ (z:Int):(sgB z).length≤11:=ZrU _
theorem Zcl {α:Type} (c:α→List Int) (b:Nat):∀ (l:List α),(∀ x∈l,(c x).length≤b)→((l.map c).flatten).length≤b*l.length
 | [], _ => by simp
 | x :: l, h => by
  have h1:=h x (by simp)
  have h2:=Zcl c b l fun y hy=>h y (by simp [hy])
  rw [List.map_cons,List.flatten_cons,List.length_append,List.length_cons,Nat.mul_add]
  omega
theorem Zf2 (c:Call):(ZmI c).length≤132:=Zcl sgB 11 (Yr c) fun x _=>ZnJ x
theorem ZEM (l:List Int) (hl:l.length+132≤80000000000) (c:Call) (hc:∀ z∈Yr c,Rng z):ZCh (Zc l) c.kind c.slot c.dest c.core c.mask c.object c.bits c.level c.offset c.count c.index c.addr=some (Zc (l++ZmI c)):=by
 refine (ZsU ..).trans ?_
 show ZgJ Zr (Zc l) (Za (Yr c)) ((Yr c).length:Int) 0=_
 refine Ve (F:=fun k a i=>ZgJ k a (Za (Yr c)) ((Yr c).length:Int) i) (l:=Yr c) sgB 11 80000000000 (show (Yr c).length < 2^63 by show 12 < 2^63;omega) (fun x _=>ZnJ x) (fun k i acc hi ha=>?_) (fun k i acc hi=>?_) l hl
 ·refine (ZgS ..).trans ?_
  have hz:=hc _ (List.getElem_mem hi)
  rw [if_pos (ZQ hi)]
  refine (ZG hi _).trans ?_
  rw [ZEe acc ha hz.1 hz.2,Option.bind_some,ZN hi (show (Yr c).length < 2^63 by show 12 < 2^63;omega)]
 ·refine (ZgS ..).trans ?_
  rw [if_neg (ZT hi)]
theorem ZEj (l:List Int) (hl:l.length+132≤80000000000) (c:Call):ZAE (Zc l) c.kind c.slot c.dest c.core c.mask c.object c.bits c.level c.offset c.count c.index c.addr=some (Zc (l++ZmI c)):=by
 refine (Zr2 ..).trans ?_
 show ZgH Zr (Zc l) (Za (Yr c)) 0=_
 refine Ve (F:=fun k a i=>ZgH k a (Za (Yr c)) i) (l:=Yr c) sgB 11 80000000000 (show (Yr c).length < 2^63 by show 12 < 2^63;omega) (fun x _=>ZnJ x) (fun k i acc hi ha=>?_) (fun k i acc hi=>?_) l hl
 ·refine (ZhP ..).trans ?_
  rw [ZB,if_pos (ZQ hi)]
  refine (Zj (by omega) _).trans ((Zj (by omega) _).trans ((ZG hi _).trans ?_))
  rw [ZEV acc ha,Option.bind_some,ZN hi (show (Yr c).length < 2^63 by show 12 < 2^63;omega)]
 ·refine (ZhP ..).trans ?_
  rw [ZB,if_neg (ZT hi)]
theorem Zfd (n:Yz):(ZbB n).length≤400:=by
 unfold ZbB
 split
 ·rename_i h
  have hp:n.path.length≤8:=by
   simp only [ZD,Bool.and_eq_true,decide_eq_true_eq] at h
   exact h.1.2
  have h1:=Y0 n.id
  have h2:=ZrU n.path.length
  have h3:=Zcl idB 33 n.path fun x _=>Y0 x
  have h4:(YK n.cap).length=10:=rfl
  unfold ZkY
  rw [List.length_append,List.length_append,List.length_append]
  omega
 ·simp
def WM (n:Yz):List Int:=nB ((ZbB n).length:Int)++ZbB n
theorem Vc (n:Yz):(WM n).length≤411:=by
 have h1:=Zfd n
 have h2:=ZP ((ZbB n).length:Int)
 unfold WM
 rw [List.length_append]
 omega
theorem Zej (a b:List Int):Zc a++Zc b=Zc (a++b):=by simp [Zc]
theorem ZyI (l:List Int) (hl:l.length≤80000000000) (n:Yz) (hn:n.path.length < 2^63):Zuw (Zc l) n.id.core n.id.op n.id.part (Zb n.path) n.cap.kind n.cap.base n.cap.bits n.cap.rights n.cap.width n.cap.level n.cap.device=some (Zc (l++WM n)):=by
 have h1:=Zfd n
 have h2:=ZP ((ZbB n).length:Int)
 rw [ZtY,ZEU n hn,Option.bind_some]
 dsimp only
 rw [Z9,s38 l hl (by omega) (by omega),Option.bind_some,Zj (room1 (by rw [Z9,List.length_append];omega) (by rw [Z9];omega)),Zej]
 unfold WM
 rw [List.append_assoc]
theorem s49 (l:List Int) (hl:l.length≤80000000000) (n:Yz) (hn:n.path.length < 2^63):g49 (Zc l) n.id.core n.id.op n.id.part (Zb n.path) n.cap.kind n.cap.base n.cap.bits n.cap.rights n.cap.width n.cap.level n.cap.device=some (Zc (l++WM n)):=by
 have h1:=Zfd n
 have h2:=ZP ((ZbB n).length:Int)
 rw [Zvh,ZE6 n hn,Option.bind_some]
 dsimp only
 rw [Z9,s40 l hl (by omega) (by omega),Option.bind_some,Zj (room1 (by rw [Z9,List.length_append];omega) (by rw [Z9];omega)),Zej]
 unfold WM
 rw [List.append_assoc]
def Zfg (r:Req):List Int:=idB r.id++ZmI r.call++nB r.region++nB r.width++WM r.src
theorem ZcI (r:Req):(Zfg r).length≤598:=by
 have h1:=Y0 r.id
 have h2:=Zf2 r.call
 have h3:=ZP r.region
 have h4:=ZP r.width
 have h5:=Vc r.src
 unfold Zfg
 rw [List.length_append,List.length_append,List.length_append,List.length_append]
 omega
structure Req.Good (r:Req):Prop where
 id:r.id.Small
 call:∀ z∈Yr r.call,Rng z
 reg0:0≤r.region
 reg1:r.region < 2^63
 wid0:0≤r.width
 wid1:r.width < 2^63
 path:r.src.path.length < 2^63
theorem ZDh (l:List Int) (hl:l.length+598≤80000000000) (r:Req) (h:r.Good):ZyK (Zc l) r.id.core r.id.op r.id.part r.call.kind r.call.slot r.call.dest r.call.core r.call.mask r.call.object r.call.bits r.call.level r.call.offset r.call.count r.call.index r.call.addr r.region r.width r.src.id.core r.src.id.op r.src.id.part (Zb r.src.path) r.src.cap.kind r.src.cap.base r.src.cap.bits r.src.cap.rights r.src.cap.width r.src.cap.level r.src.cap.device=some (Zc (l++Zfg r)):=by
 have h1:=Y0 r.id
 have h2:=Zf2 r.call
 have h3:=ZP r.region
 have h4:=ZP r.width
 rw [Zs7,ZvH l (by omega) h.id,Option.bind_some,ZEM _ (by rw [List.length_append];omega) r.call h.call,Option.bind_some,s38 _ (by rw [List.length_append,List.length_append];omega) h.reg0 h.reg1,Option.bind_some,s38 _ (by rw [List.length_append,List.length_append,List.length_append];omega) h.wid0 h.wid1,Option.bind_some,ZyI _ (by rw [List.length_append,List.length_append,List.length_append,List.length_append];omega) r.src h.path,Option.bind_some]
 unfold Zfg
 simp only [List.append_assoc]
theorem s41 (l:List Int) (hl:l.length+598≤80000000000) (r:Req) (h:r.Good):g41 (Zc l) r.id.core r.id.op r.id.part r.call.kind r.call.slot r.call.dest r.call.core r.call.mask r.call.object r.call.bits r.call.level r.call.offset r.call.count r.call.index r.call.addr r.region r.width r.src.id.core r.src.id.op r.src.id.part (Zb r.src.path) r.src.cap.kind r.src.cap.base r.src.cap.bits r.src.cap.rights r.src.cap.width r.src.cap.level r.src.cap.device=some (Zc (l++Zfg r)):=by
 have h1:=Y0 r.id
 have h2:=Zf2 r.call
 have h3:=ZP r.region
 have h4:=ZP r.width
 rw [Zye,Zlb l (by omega) h.id,Option.bind_some,ZEj _ (by rw [List.length_append];omega) r.call,Option.bind_some,s40 _ (by rw [List.length_append,List.length_append];omega) h.reg0 h.reg1,Option.bind_some,s40 _ (by rw [List.length_append,List.length_append,List.length_append];omega) h.wid0 h.wid1,Option.bind_some,s49 _ (by rw [List.length_append,List.length_append,List.length_append,List.length_append];omega) r.src h.path,Option.bind_some]
 unfold Zfg
 simp only [List.append_assoc]
def bB (b:Bool):List Int:=if b=true then nB 1 else nB 0
theorem ZCN (l:List Int) (hl:l.length≤80000000000) (b:Bool):ZyX (Zc l) b=some (Zc (l++bB b)):=by
 rw [Zuj]
 cases b with
 | true => rw [if_pos rfl, s38 l hl (by decide) (by decide)]; rfl
 | false => rw [if_neg Bool.false_ne_true, s38 l hl (by decide) (by decide)]; rfl
theorem s42 (l:List Int) (hl:l.length≤80000000000) (b:Bool):g42 (Zc l) b=some (Zc (l++bB b)):=by
 rw [ZvB]
 cases b with
 | true => rw [if_pos rfl, s40 l hl (by decide) (by decide)]; rfl
 | false => rw [if_neg Bool.false_ne_true, s40 l hl (by decide) (by decide)]; rfl
def ZfB (m:ZeG):List Int:=nB m.region++nB m.to
theorem ZfT (m:ZeG):(ZfB m).length≤22:=by
 have h1:=ZP m.region
 have h2:=ZP m.to
 unfold ZfB
 rw [List.length_append]
 omega
def Zw {α:Type} (c:α→List Int) (xs:List α):List Int:=nB (xs.length:Int)++(xs.map c).flatten
theorem ZEw (l:List Int) (xs:List Yz) (hl:l.length+11+411*xs.length≤79999999978) (hx:xs.length < 2^63) (h:∀ x∈xs,x.path.length < 2^63):ZCm (Zc l) (xs.map ZY)=some (Zc (l++Zw WM xs)):=by
 have h1:=ZP (xs.length:Int)
 refine (Zsk ..).trans ?_
 rw [List.length_map,s38 l (by omega) (by omega) (by omega),Option.bind_some]
 unfold Zw
 rw [← List.append_assoc]
 refine Ve (F:=fun k a i=>ZkR k a (xs.map ZY) (xs.length:Int) i) (l:=xs) WM 411 79999999978 hx (fun x _=>Vc x) (fun k i acc hi ha=>?_) (fun k i acc hi=>?_) _ (by rw [List.length_append];omega)
 ·refine (ZhL ..).trans ?_
  have hz:=h _ (List.getElem_mem hi)
  rw [if_pos (ZQ hi)]
  refine (Yv hi _).trans ?_
  simp only [Zhg,d2,d4,d8,d16]
  rw [ZyI acc (by omega) _ hz,Option.bind_some,ZN hi hx]
 ·refine (ZhL ..).trans ?_
  rw [if_neg (ZT hi)]
theorem ZCR (l:List Int) (xs:List Id) (hl:l.length+11+33*xs.length≤79999999978) (hx:xs.length < 2^63) (h:∀ x∈xs,x.Small):ZyV (Zc l) (Zb xs)=some (Zc (l++Zw idB xs)):=by
 have h1:=ZP (xs.length:Int)
 refine (Zte ..).trans ?_
 rw [ZJ,s38 l (by omega) (by omega) (by omega),Option.bind_some]
 unfold Zw
 rw [← List.append_assoc]
 refine Ve (F:=fun k a i=>Zj8 k a (Zb xs) (xs.length:Int) i) (l:=xs) idB 33 79999999978 hx (fun x _=>Y0 x) (fun k i acc hi ha=>?_) (fun k i acc hi=>?_) _ (by rw [List.length_append];omega)
 ·refine (Zhc ..).trans ?_
  have hz:=h _ (List.getElem_mem hi)
  rw [if_pos (ZQ hi)]
  refine (Vd hi _).trans ?_
  dsimp only
  rw [ZvH acc (by omega) hz,Option.bind_some,ZN hi hx]
 ·refine (Zhc ..).trans ?_
  rw [if_neg (ZT hi)]
theorem ZBh (l:List Int) (xs:List Int) (hl:l.length+11+11*xs.length≤79999999978) (hx:xs.length < 2^63) (h:∀ x∈xs,0≤x∧x < 2^63):ZuY (Zc l) (Za xs)=some (Zc (l++Zw nB xs)):=by
 have h1:=ZP (xs.length:Int)
 refine (ZtS ..).trans ?_
 rw [ZB,s38 l (by omega) (by omega) (by omega),Option.bind_some]
 unfold Zw
 rw [← List.append_assoc]
 refine Ve (F:=fun k a i=>ZkI k a (Za xs) (xs.length:Int) i) (l:=xs) nB 11 79999999978 hx (fun x _=>ZP x) (fun k i acc hi ha=>?_) (fun k i acc hi=>?_) _ (by rw [List.length_append];omega)
 ·refine (Zha ..).trans ?_
  have hz:=h _ (List.getElem_mem hi)
  rw [if_pos (ZQ hi)]
  refine (ZG hi _).trans ?_
  rw [s38 acc (by omega) hz.1 hz.2,Option.bind_some,ZN hi hx]
 ·refine (Zha ..).trans ?_
  rw [if_neg (ZT hi)]
theorem ZDP (l:List Int) (xs:List ZeG) (hl:l.length+11+22*xs.length≤79999999978) (hx:xs.length < 2^63) (h:∀ x∈xs,(0≤x.region∧x.region < 2^63)∧0≤x.to∧x.to < 2^63):ZzL (Zc l) (xs.map ZU)=some (Zc (l++Zw ZfB xs)):=by
 have h1:=ZP (xs.length:Int)
 refine (Zud ..).trans ?_
 rw [List.length_map,s38 l (by omega) (by omega) (by omega),Option.bind_some]
 unfold Zw
 rw [← List.append_assoc]
 refine Ve (F:=fun k a i=>Zkl k a (xs.map ZU) (xs.length:Int) i) (l:=xs) ZfB 22 79999999978 hx (fun x _=>ZfT x) (fun k i acc hi ha=>?_) (fun k i acc hi=>?_) _ (by rw [List.length_append];omega)
 ·refine (Zhe ..).trans ?_
  have hz:=h _ (List.getElem_mem hi)
  rw [if_pos (ZQ hi)]
  refine (Yh hi _).trans ?_
  dsimp only
  have b1:=ZP xs[i].region
  rw [s38 acc (by omega) hz.1.1 hz.1.2,Option.bind_some,s38 _ (by rw [List.length_append];omega) hz.2.1 hz.2.2,Option.bind_some,ZN hi hx,List.append_assoc]
  rfl
 ·refine (Zhe ..).trans ?_
  rw [if_neg (ZT hi)]
theorem s44 (l:List Int) (xs:List Id) (hl:l.length+11+33*xs.length≤79999999978) (hx:xs.length < 2^63) (h:∀ x∈xs,x.Small):g44 (Zc l) (Zb xs)=some (Zc (l++Zw idB xs)):=by
 have h1:=ZP (xs.length:Int)
 refine (ZxD ..).trans ?_
 rw [ZJ,s40 l (by omega) (by omega) (by omega),Option.bind_some]
 unfold Zw
 rw [← List.append_assoc]
 refine Ve (F:=fun k a i=>ZpB k a (Zb xs) i) (l:=xs) idB 33 79999999978 hx (fun x _=>Y0 x) (fun k i acc hi ha=>?_) (fun k i acc hi=>?_) _ (by rw [List.length_append];omega)
 ·refine (Zk3 ..).trans ?_
  have hz:=h _ (List.getElem_mem hi)
  rw [ZJ,if_pos (ZQ hi)]
  refine (Vd hi _).trans ?_
  dsimp only
  rw [Zlb acc (by omega) hz,Option.bind_some,ZN hi hx]
 ·refine (Zk3 ..).trans ?_
  rw [ZJ,if_neg (ZT hi)]
theorem s45 (l:List Int) (xs:List Int) (hl:l.length+11+11*xs.length≤79999999978) (hx:xs.length < 2^63) (h:∀ x∈xs,0≤x∧x < 2^63):g45 (Zc l) (Za xs)=some (Zc (l++Zw nB xs)):=by
 have h1:=ZP (xs.length:Int)
 refine (Zwh ..).trans ?_
 rw [ZB,s40 l (by omega) (by omega) (by omega),Option.bind_some]
 unfold Zw
 rw [← List.append_assoc]
 refine Ve (F:=fun k a i=>Zpn k a (Za xs) i) (l:=xs) nB 11 79999999978 hx (fun x _=>ZP x) (fun k i acc hi ha=>?_) (fun k i acc hi=>?_) _ (by rw [List.length_append];omega)
 ·refine (ZkG ..).trans ?_
  have hz:=h _ (List.getElem_mem hi)
  rw [ZB,if_pos (ZQ hi)]
  refine (ZG hi _).trans ?_
  rw [s40 acc (by omega) hz.1 hz.2,Option.bind_some,ZN hi hx]
 ·refine (ZkG ..).trans ?_
  rw [ZB,if_neg (ZT hi)]
end Go.Proofs.YtjldbnbdcmfbmaaGreat
end

section
namespace Go.Proofs.YtjldbnbdcmfbmaaGreat
open Go Go.AM
set_option linter.unusedSimpArgs false
set_option linter.unusedVariables false
set_option maxRecDepth 100000
theorem JQ {α γ:Type} {F:Nat→List (List AV)→Int→Option γ} {l:List α} (c:α→List Int) (G:List Int→Option γ) (b lim:Nat) (hn:l.length < 2^63) (hB:∀ x∈l,(c x).length≤b)
  (step:∀ (k i:Nat) (acc:List Int) (hi:i < l.length),acc.length≤lim→F (k+1) (Zc acc) (i:Int)=F k (Zc (acc++c l[i])) ((i+1:Nat):Int))
  (last:∀ (k i:Nat) (acc:List Int),l.length≤i→acc.length≤lim→F (k+1) (Zc acc) (i:Int)=G acc) (acc:List Int) (ha:acc.length+b*l.length≤lim) :
  F Zr (Zc acc) 0=G (acc++(l.map c).flatten):=by
 have key:∀ (j i fuel:Nat) (acc:List Int),l.length≤i+j→j < fuel→acc.length+b*(l.length-i)≤lim→F fuel (Zc acc) (i:Int)=G (acc++((l.drop i).map c).flatten):=by
  intro j
  induction j with
  | zero =>
   intro i fuel acc h hf hb
   obtain ⟨f,rfl⟩:∃ f,fuel=f+1:=⟨fuel-1,by omega⟩
   rw [last f i acc (by omega) (by omega),List.drop_of_length_le (by omega)]
   simp
  | succ j ih =>
   intro i fuel acc h hf hb
   obtain ⟨f,rfl⟩:∃ f,fuel=f+1:=⟨fuel-1,by omega⟩
   by_cases hi:i < l.length
   ·have hx:=hB _ (List.getElem_mem hi)
    have hm:b*(l.length-i)=b+b*(l.length-(i+1)):=by
     rw [show l.length-i=(l.length-(i+1))+1 by omega,Nat.mul_add,Nat.mul_one,Nat.add_comm]
    rw [step f i acc hi (by omega),ih (i+1) f (acc++c l[i]) (by omega) (by omega) (by rw [List.length_append];omega),List.drop_eq_getElem_cons hi,List.map_cons,List.flatten_cons,List.append_assoc]
   ·rw [last f i acc (by omega) (by omega),List.drop_of_length_le (by omega)]
    simp
 have:=key l.length 0 Zr acc (by omega) (by have:=J5 hn;omega) (by simpa using ha)
 simpa using this
def ZdI (s:Kx):List Int:=WM s.node++nB s.op++idB s.lock
def VB (m:Zcm):List Int:=nB m.region++idB m.op
def ZcN (a:Ans):List Int:=nB a.op++nB a.err
def Zbm (e:ZI):List Int:=nB e.core++nB e.slot++WM e.node
theorem Zfn (s:Kx):(ZdI s).length≤455:=by
 have h1:=Vc s.node
 have h2:=ZP s.op
 have h3:=Y0 s.lock
 unfold ZdI
 rw [List.length_append,List.length_append]
 omega
theorem ZfW (m:Zcm):(VB m).length≤44:=by
 have h2:=ZP m.region
 have h3:=Y0 m.op
 unfold VB
 rw [List.length_append]
 omega
theorem ZiG (a:Ans):(ZcN a).length≤22:=by
 have h2:=ZP a.op
 have h3:=ZP a.err
 unfold ZcN
 rw [List.length_append]
 omega
theorem Zjf (e:ZI):(Zbm e).length≤433:=by
 have h1:=Vc e.node
 have h2:=ZP e.core
 have h3:=ZP e.slot
 unfold Zbm
 rw [List.length_append,List.length_append]
 omega
def N63 (z:Int):Prop:=0≤z∧z < 2^63
structure JW.Good (s:JW):Prop where
 slots:s.slots.length≤2097152
 pending:s.pending.length≤2097152
 marks:s.marks.length≤2097152
 answers:s.answers.length≤2097152
 entries:s.entries.length≤2097152
 commits:s.commits.length≤2097152
 slot:∀ x∈s.slots,x.node.path.length < 2^63∧N63 x.op∧x.lock.Small
 req:∀ x∈s.pending,x.Good
 mark:∀ x∈s.marks,N63 x.region∧x.op.Small
 ans:∀ x∈s.answers,N63 x.op∧N63 x.err
 entry:∀ x∈s.entries,N63 x.core∧N63 x.slot∧x.node.path.length < 2^63
 commit:∀ x∈s.commits,x.Small
def Wd (s:JW):List Int:=Zw ZdI s.slots++(Zw Zfg s.pending++(Zw VB s.marks++(Zw ZcN s.answers++(Zw Zbm s.entries++Zw idB s.commits))))
theorem J6 {α:Type} (c:α→List Int) (b n:Nat) (l:List α) (h:∀ x∈l,(c x).length≤b) (hn:l.length≤n):(Zw c l).length≤11+b*n:=by
 have h1:=ZP (l.length:Int)
 have h2:=Zcl c b l h
 have h3:b*l.length≤b*n:=Nat.mul_le_mul_left b hn
 unfold Zw
 rw [List.length_append]
 omega
theorem Vl (s:JW) (h:s.Good):(Wd s).length≤3400000000:=by
 have h1:=J6 ZdI 455 _ s.slots (fun x _=>Zfn x) h.slots
 have h2:=J6 Zfg 598 _ s.pending (fun x _=>ZcI x) h.pending
 have h3:=J6 VB 44 _ s.marks (fun x _=>ZfW x) h.marks
 have h4:=J6 ZcN 22 _ s.answers (fun x _=>ZiG x) h.answers
 have h5:=J6 Zbm 433 _ s.entries (fun x _=>Zjf x) h.entries
 have h6:=J6 idB 33 _ s.commits (fun x _=>Y0 x) h.commits
 unfold Wd
 rw [List.length_append,List.length_append,List.length_append,List.length_append,List.length_append]
 omega
theorem ZCu (l:List Int) (hl:l.length≤60000000000) (s:JW) (h:s.Good):Zvt (Zc l) (s.slots.map Zg) (s.pending.map Zv) (s.marks.map Zh) (s.answers.map Zx) (s.entries.map Ze) (Zb s.commits)=some (Zc (l++Wd s)):=by
 have L0:∀ acc:List Int,acc.length≤70000000000→ZhW Zr (Zc acc) (s.slots.map Zg) (s.pending.map Zv) (s.marks.map Zh) (s.answers.map Zx) (s.entries.map Ze) (Zb s.commits) (s.entries.map Ze) (s.entries.length:Int) 0=some (Zc ((acc++(s.entries.map Zbm).flatten)++(Zw idB s.commits))):=by
  intro acc hacc
  have hln:=h.entries
  have hn:s.entries.length < 2^63:=by omega
  refine JQ (F:=fun k a i=>ZhW k a (s.slots.map Zg) (s.pending.map Zv) (s.marks.map Zh) (s.answers.map Zx) (s.entries.map Ze) (Zb s.commits) (s.entries.map Ze) (s.entries.length:Int) i) (l:=s.entries) Zbm (fun acc=>some (Zc (acc++(Zw idB s.commits)))) 433 71900000000 hn (fun x _=>Zjf x) (fun k i acc hi ha=>?_) (fun k i acc hi ha=>?_) acc (by omega)
  ·refine (Zhs ..).trans ?_
   have hz:=h.entry _ (List.getElem_mem hi)
   have b1:=ZP s.entries[i].core
   have b2:=ZP s.entries[i].slot
   rw [if_pos (ZQ hi)]
   refine (Zq hi _).trans ?_
   try simp only [Zq hi,J8,d2,d4,d8,d16]
   rw [s38 acc (by omega) hz.1.1 hz.1.2,Option.bind_some,s38 _ (by rw [List.length_append];omega) hz.2.1.1 hz.2.1.2,Option.bind_some,ZyI _ (by rw [List.length_append,List.length_append];omega) _ hz.2.2,Option.bind_some,ZN hi hn]
   try simp only [Zbm,List.append_assoc]
  ·refine (Zhs ..).trans ?_
   rw [if_neg (ZT hi)]
   rw [ZCR acc s.commits (by have:=h.commits;omega) (by have:=h.commits;omega) h.commit]
   rfl
 have L1:∀ acc:List Int,acc.length≤68000000000→ZhY Zr (Zc acc) (s.slots.map Zg) (s.pending.map Zv) (s.marks.map Zh) (s.answers.map Zx) (s.entries.map Ze) (Zb s.commits) (s.answers.map Zx) (s.answers.length:Int) 0=some (Zc ((acc++(s.answers.map ZcN).flatten)++(Zw Zbm s.entries++(Zw idB s.commits)))):=by
  intro acc hacc
  have hln:=h.answers
  have hn:s.answers.length < 2^63:=by omega
  refine JQ (F:=fun k a i=>ZhY k a (s.slots.map Zg) (s.pending.map Zv) (s.marks.map Zh) (s.answers.map Zx) (s.entries.map Ze) (Zb s.commits) (s.answers.map Zx) (s.answers.length:Int) i) (l:=s.answers) ZcN (fun acc=>some (Zc (acc++(Zw Zbm s.entries++(Zw idB s.commits))))) 22 69900000000 hn (fun x _=>ZiG x) (fun k i acc hi ha=>?_) (fun k i acc hi ha=>?_) acc (by omega)
  ·refine (Zg5 ..).trans ?_
   have hz:=h.ans _ (List.getElem_mem hi)
   have b1:=ZP s.answers[i].op
   rw [if_pos (ZQ hi)]
   refine (JS hi _).trans ?_
   try simp only [JS hi,d2,d4,d8,d16]
   rw [s38 acc (by omega) hz.1.1 hz.1.2,Option.bind_some,s38 _ (by rw [List.length_append];omega) hz.2.1 hz.2.2,Option.bind_some,ZN hi hn]
   try simp only [ZcN,List.append_assoc]
  ·refine (Zg5 ..).trans ?_
   rw [if_neg (ZT hi)]
   have b1:=ZP (s.entries.length:Int)
   have b2:=h.entries
   rw [List.length_map,s38 acc (by omega) (by omega) (by omega),Option.bind_some,L0 _ (by rw [List.length_append];omega)]
   simp only [Zw,List.append_assoc]
 have L2:∀ acc:List Int,acc.length≤66000000000→ZhI Zr (Zc acc) (s.slots.map Zg) (s.pending.map Zv) (s.marks.map Zh) (s.answers.map Zx) (s.entries.map Ze) (Zb s.commits) (s.marks.map Zh) (s.marks.length:Int) 0=some (Zc ((acc++(s.marks.map VB).flatten)++(Zw ZcN s.answers++(Zw Zbm s.entries++(Zw idB s.commits))))):=by
  intro acc hacc
  have hln:=h.marks
  have hn:s.marks.length < 2^63:=by omega
  refine JQ (F:=fun k a i=>ZhI k a (s.slots.map Zg) (s.pending.map Zv) (s.marks.map Zh) (s.answers.map Zx) (s.entries.map Ze) (Zb s.commits) (s.marks.map Zh) (s.marks.length:Int) i) (l:=s.marks) VB (fun acc=>some (Zc (acc++(Zw ZcN s.answers++(Zw Zbm s.entries++(Zw idB s.commits)))))) 44 67900000000 hn (fun x _=>ZfW x) (fun k i acc hi ha=>?_) (fun k i acc hi ha=>?_) acc (by omega)
  ·refine (Zgs ..).trans ?_
   have hz:=h.mark _ (List.getElem_mem hi)
   have b1:=ZP s.marks[i].region
   rw [if_pos (ZQ hi)]
   refine (Ju hi _).trans ?_
   try simp only [Ju hi,d2,d4,d8,d16]
   rw [s38 acc (by omega) hz.1.1 hz.1.2,Option.bind_some,ZvH _ (by rw [List.length_append];omega) hz.2,Option.bind_some,ZN hi hn]
   try simp only [VB,List.append_assoc]
  ·refine (Zgs ..).trans ?_
   rw [if_neg (ZT hi)]
   have b1:=ZP (s.answers.length:Int)
   have b2:=h.answers
   rw [List.length_map,s38 acc (by omega) (by omega) (by omega),Option.bind_some,L1 _ (by rw [List.length_append];omega)]
   simp only [Zw,List.append_assoc]
 have L3:∀ acc:List Int,acc.length≤64000000000→ZgW Zr (Zc acc) (s.slots.map Zg) (s.pending.map Zv) (s.marks.map Zh) (s.answers.map Zx) (s.entries.map Ze) (Zb s.commits) (s.pending.map Zv) (s.pending.length:Int) 0=some (Zc ((acc++(s.pending.map Zfg).flatten)++(Zw VB s.marks++(Zw ZcN s.answers++(Zw Zbm s.entries++(Zw idB s.commits)))))):=by
  intro acc hacc
  have hln:=h.pending
  have hn:s.pending.length < 2^63:=by omega
  refine JQ (F:=fun k a i=>ZgW k a (s.slots.map Zg) (s.pending.map Zv) (s.marks.map Zh) (s.answers.map Zx) (s.entries.map Ze) (Zb s.commits) (s.pending.map Zv) (s.pending.length:Int) i) (l:=s.pending) Zfg (fun acc=>some (Zc (acc++(Zw VB s.marks++(Zw ZcN s.answers++(Zw Zbm s.entries++(Zw idB s.commits))))))) 598 65900000000 hn (fun x _=>ZcI x) (fun k i acc hi ha=>?_) (fun k i acc hi ha=>?_) acc (by omega)
  ·refine (ZgQ ..).trans ?_
   have hz:=h.req _ (List.getElem_mem hi)
   skip
   rw [if_pos (ZQ hi)]
   refine (Jz hi _).trans ?_
   try simp only [Jz hi,Zmk,d2,d4,d8,d16]
   rw [ZDh acc (by omega) _ hz,Option.bind_some,ZN hi hn]
   try simp only [List.append_assoc]
  ·refine (ZgQ ..).trans ?_
   rw [if_neg (ZT hi)]
   have b1:=ZP (s.marks.length:Int)
   have b2:=h.marks
   rw [List.length_map,s38 acc (by omega) (by omega) (by omega),Option.bind_some,L2 _ (by rw [List.length_append];omega)]
   simp only [Zw,List.append_assoc]
 have L4:∀ acc:List Int,acc.length≤62000000000→Zg1 Zr (Zc acc) (s.slots.map Zg) (s.pending.map Zv) (s.marks.map Zh) (s.answers.map Zx) (s.entries.map Ze) (Zb s.commits) (s.slots.map Zg) (s.slots.length:Int) 0=some (Zc ((acc++(s.slots.map ZdI).flatten)++(Zw Zfg s.pending++(Zw VB s.marks++(Zw ZcN s.answers++(Zw Zbm s.entries++(Zw idB s.commits))))))):=by
  intro acc hacc
  have hln:=h.slots
  have hn:s.slots.length < 2^63:=by omega
  refine JQ (F:=fun k a i=>Zg1 k a (s.slots.map Zg) (s.pending.map Zv) (s.marks.map Zh) (s.answers.map Zx) (s.entries.map Ze) (Zb s.commits) (s.slots.map Zg) (s.slots.length:Int) i) (l:=s.slots) ZdI (fun acc=>some (Zc (acc++(Zw Zfg s.pending++(Zw VB s.marks++(Zw ZcN s.answers++(Zw Zbm s.entries++(Zw idB s.commits)))))))) 455 63900000000 hn (fun x _=>Zfn x) (fun k i acc hi ha=>?_) (fun k i acc hi ha=>?_) acc (by omega)
  ·refine (Zhr ..).trans ?_
   have hz:=h.slot _ (List.getElem_mem hi)
   have b1:=Vc s.slots[i].node
   have b2:=ZP s.slots[i].op
   rw [if_pos (ZQ hi)]
   refine (Jl hi _).trans ?_
   try simp only [Jl hi,Zbt,d2,d4,d8,d16]
   rw [ZyI acc (by omega) _ hz.1,Option.bind_some,s38 _ (by rw [List.length_append];omega) hz.2.1.1 hz.2.1.2,Option.bind_some,ZvH _ (by rw [List.length_append,List.length_append];omega) hz.2.2,Option.bind_some,ZN hi hn]
   try simp only [ZdI,List.append_assoc]
  ·refine (Zhr ..).trans ?_
   rw [if_neg (ZT hi)]
   have b1:=ZP (s.pending.length:Int)
   have b2:=h.pending
   rw [List.length_map,s38 acc (by omega) (by omega) (by omega),Option.bind_some,L3 _ (by rw [List.length_append];omega)]
   simp only [Zw,List.append_assoc]
 have hln:=h.slots
 have b1:=ZP (s.slots.length:Int)
 refine (ZrI ..).trans ?_
 rw [List.length_map,s38 l (by omega) (by omega) (by omega),Option.bind_some,L4 _ (by rw [List.length_append];omega)]
 simp only [Wd,Zw,List.append_assoc]
theorem s47 (l:List Int) (hl:l.length≤60000000000) (s:JW) (h:s.Good):g47 (Zc l) (s.slots.map Zg) (s.pending.map Zv) (s.marks.map Zh) (s.answers.map Zx) (s.entries.map Ze) (Zb s.commits)=some (Zc (l++Wd s)):=by
 have L0:∀ acc:List Int,acc.length≤70000000000→ZoB Zr (Zc acc) (s.slots.map Zg) (s.pending.map Zv) (s.marks.map Zh) (s.answers.map Zx) (s.entries.map Ze) (Zb s.commits) 0=some (Zc ((acc++(s.entries.map Zbm).flatten)++(Zw idB s.commits))):=by
  intro acc hacc
  have hln:=h.entries
  have hn:s.entries.length < 2^63:=by omega
  refine JQ (F:=fun k a i=>ZoB k a (s.slots.map Zg) (s.pending.map Zv) (s.marks.map Zh) (s.answers.map Zx) (s.entries.map Ze) (Zb s.commits) i) (l:=s.entries) Zbm (fun acc=>some (Zc (acc++(Zw idB s.commits)))) 433 71900000000 hn (fun x _=>Zjf x) (fun k i acc hi ha=>?_) (fun k i acc hi ha=>?_) acc (by omega)
  ·refine (ZkF ..).trans ?_
   have hz:=h.entry _ (List.getElem_mem hi)
   have b1:=ZP s.entries[i].core
   have b2:=ZP s.entries[i].slot
   rw [List.length_map,if_pos (ZQ hi)]
   refine (Zq hi _).trans ?_
   try simp only [Zq hi,J8,d2,d4,d8,d16]
   rw [s40 acc (by omega) hz.1.1 hz.1.2,Option.bind_some,s40 _ (by rw [List.length_append];omega) hz.2.1.1 hz.2.1.2,Option.bind_some,s49 _ (by rw [List.length_append,List.length_append];omega) _ hz.2.2,Option.bind_some,ZN hi hn]
   try simp only [Zbm,List.append_assoc]
  ·refine (ZkF ..).trans ?_
   rw [List.length_map,if_neg (ZT hi)]
   rw [s44 acc s.commits (by have:=h.commits;omega) (by have:=h.commits;omega) h.commit]
   rfl
 have L1:∀ acc:List Int,acc.length≤68000000000→ZnY Zr (Zc acc) (s.slots.map Zg) (s.pending.map Zv) (s.marks.map Zh) (s.answers.map Zx) (s.entries.map Ze) (Zb s.commits) 0=some (Zc ((acc++(s.answers.map ZcN).flatten)++(Zw Zbm s.entries++(Zw idB s.commits)))):=by
  intro acc hacc
  have hln:=h.answers
  have hn:s.answers.length < 2^63:=by omega
  refine JQ (F:=fun k a i=>ZnY k a (s.slots.map Zg) (s.pending.map Zv) (s.marks.map Zh) (s.answers.map Zx) (s.entries.map Ze) (Zb s.commits) i) (l:=s.answers) ZcN (fun acc=>some (Zc (acc++(Zw Zbm s.entries++(Zw idB s.commits))))) 22 69900000000 hn (fun x _=>ZiG x) (fun k i acc hi ha=>?_) (fun k i acc hi ha=>?_) acc (by omega)
  ·refine (ZkW ..).trans ?_
   have hz:=h.ans _ (List.getElem_mem hi)
   have b1:=ZP s.answers[i].op
   rw [List.length_map,if_pos (ZQ hi)]
   refine (JS hi _).trans ?_
   try simp only [JS hi,d2,d4,d8,d16]
   rw [s40 acc (by omega) hz.1.1 hz.1.2,Option.bind_some,s40 _ (by rw [List.length_append];omega) hz.2.1 hz.2.2,Option.bind_some,ZN hi hn]
   try simp only [ZcN,List.append_assoc]
  ·refine (ZkW ..).trans ?_
   rw [List.length_map,if_neg (ZT hi)]
   have b1:=ZP (s.entries.length:Int)
   have b2:=h.entries
   rw [List.length_map,s40 acc (by omega) (by omega) (by omega),Option.bind_some,L0 _ (by rw [List.length_append];omega)]
   simp only [Zw,List.append_assoc]
 have L2:∀ acc:List Int,acc.length≤66000000000→Zoj Zr (Zc acc) (s.slots.map Zg) (s.pending.map Zv) (s.marks.map Zh) (s.answers.map Zx) (s.entries.map Ze) (Zb s.commits) 0=some (Zc ((acc++(s.marks.map VB).flatten)++(Zw ZcN s.answers++(Zw Zbm s.entries++(Zw idB s.commits))))):=by
  intro acc hacc
  have hln:=h.marks
  have hn:s.marks.length < 2^63:=by omega
  refine JQ (F:=fun k a i=>Zoj k a (s.slots.map Zg) (s.pending.map Zv) (s.marks.map Zh) (s.answers.map Zx) (s.entries.map Ze) (Zb s.commits) i) (l:=s.marks) VB (fun acc=>some (Zc (acc++(Zw ZcN s.answers++(Zw Zbm s.entries++(Zw idB s.commits)))))) 44 67900000000 hn (fun x _=>ZfW x) (fun k i acc hi ha=>?_) (fun k i acc hi ha=>?_) acc (by omega)
  ·refine (ZjN ..).trans ?_
   have hz:=h.mark _ (List.getElem_mem hi)
   have b1:=ZP s.marks[i].region
   rw [List.length_map,if_pos (ZQ hi)]
   refine (Ju hi _).trans ?_
   try simp only [Ju hi,d2,d4,d8,d16]
   rw [s40 acc (by omega) hz.1.1 hz.1.2,Option.bind_some,Zlb _ (by rw [List.length_append];omega) hz.2,Option.bind_some,ZN hi hn]
   try simp only [VB,List.append_assoc]
  ·refine (ZjN ..).trans ?_
   rw [List.length_map,if_neg (ZT hi)]
   have b1:=ZP (s.answers.length:Int)
   have b2:=h.answers
   rw [List.length_map,s40 acc (by omega) (by omega) (by omega),Option.bind_some,L1 _ (by rw [List.length_append];omega)]
   simp only [Zw,List.append_assoc]
 have L3:∀ acc:List Int,acc.length≤64000000000→Zm0 Zr (Zc acc) (s.slots.map Zg) (s.pending.map Zv) (s.marks.map Zh) (s.answers.map Zx) (s.entries.map Ze) (Zb s.commits) 0=some (Zc ((acc++(s.pending.map Zfg).flatten)++(Zw VB s.marks++(Zw ZcN s.answers++(Zw Zbm s.entries++(Zw idB s.commits)))))):=by
  intro acc hacc
  have hln:=h.pending
  have hn:s.pending.length < 2^63:=by omega
  refine JQ (F:=fun k a i=>Zm0 k a (s.slots.map Zg) (s.pending.map Zv) (s.marks.map Zh) (s.answers.map Zx) (s.entries.map Ze) (Zb s.commits) i) (l:=s.pending) Zfg (fun acc=>some (Zc (acc++(Zw VB s.marks++(Zw ZcN s.answers++(Zw Zbm s.entries++(Zw idB s.commits))))))) 598 65900000000 hn (fun x _=>ZcI x) (fun k i acc hi ha=>?_) (fun k i acc hi ha=>?_) acc (by omega)
  ·refine (ZkL ..).trans ?_
   have hz:=h.req _ (List.getElem_mem hi)
   skip
   rw [List.length_map,if_pos (ZQ hi)]
   refine (Jz hi _).trans ?_
   try simp only [Jz hi,Zmk,d2,d4,d8,d16]
   rw [s41 acc (by omega) _ hz,Option.bind_some,ZN hi hn]
   try simp only [List.append_assoc]
  ·refine (ZkL ..).trans ?_
   rw [List.length_map,if_neg (ZT hi)]
   have b1:=ZP (s.marks.length:Int)
   have b2:=h.marks
   rw [List.length_map,s40 acc (by omega) (by omega) (by omega),Option.bind_some,L2 _ (by rw [List.length_append];omega)]
   simp only [Zw,List.append_assoc]
 have L4:∀ acc:List Int,acc.length≤62000000000→ZoE Zr (Zc acc) (s.slots.map Zg) (s.pending.map Zv) (s.marks.map Zh) (s.answers.map Zx) (s.entries.map Ze) (Zb s.commits) 0=some (Zc ((acc++(s.slots.map ZdI).flatten)++(Zw Zfg s.pending++(Zw VB s.marks++(Zw ZcN s.answers++(Zw Zbm s.entries++(Zw idB s.commits))))))):=by
  intro acc hacc
  have hln:=h.slots
  have hn:s.slots.length < 2^63:=by omega
  refine JQ (F:=fun k a i=>ZoE k a (s.slots.map Zg) (s.pending.map Zv) (s.marks.map Zh) (s.answers.map Zx) (s.entries.map Ze) (Zb s.commits) i) (l:=s.slots) ZdI (fun acc=>some (Zc (acc++(Zw Zfg s.pending++(Zw VB s.marks++(Zw ZcN s.answers++(Zw Zbm s.entries++(Zw idB s.commits)))))))) 455 63900000000 hn (fun x _=>Zfn x) (fun k i acc hi ha=>?_) (fun k i acc hi ha=>?_) acc (by omega)
  ·refine (Zks ..).trans ?_
   have hz:=h.slot _ (List.getElem_mem hi)
   have b1:=Vc s.slots[i].node
   have b2:=ZP s.slots[i].op
   rw [List.length_map,if_pos (ZQ hi)]
   refine (Jl hi _).trans ?_
   try simp only [Jl hi,Zbt,d2,d4,d8,d16]
   rw [s49 acc (by omega) _ hz.1,Option.bind_some,s40 _ (by rw [List.length_append];omega) hz.2.1.1 hz.2.1.2,Option.bind_some,Zlb _ (by rw [List.length_append,List.length_append];omega) hz.2.2,Option.bind_some,ZN hi hn]
   try simp only [ZdI,List.append_assoc]
  ·refine (Zks ..).trans ?_
   rw [List.length_map,if_neg (ZT hi)]
   have b1:=ZP (s.pending.length:Int)
   have b2:=h.pending
   rw [List.length_map,s40 acc (by omega) (by omega) (by omega),Option.bind_some,L3 _ (by rw [List.length_append];omega)]
   simp only [Zw,List.append_assoc]
 have hln:=h.slots
 have b1:=ZP (s.slots.length:Int)
 refine (Zx8 ..).trans ?_
 rw [List.length_map,s40 l (by omega) (by omega) (by omega),Option.bind_some,L4 _ (by rw [List.length_append];omega)]
 simp only [Wd,Zw,List.append_assoc]
structure V7.Good (v:V7):Prop where
 num:N63 v.number
 members:v.members.length≤2097152
 owners:v.owners.length≤2097152
 member:∀ x∈v.members,0≤x∧x < 2^63
 owner:∀ x∈v.owners,0≤x∧x < 2^63
def Zc9 (v:V7):List Int:=nB v.number++(Zw nB v.members++Zw nB v.owners)
theorem K6 (v:V7) (h:v.Good):(Zc9 v).length≤50000000:=by
 have h1:=ZP v.number
 have h2:=J6 nB 11 _ v.members (fun x _=>ZP x) h.members
 have h3:=J6 nB 11 _ v.owners (fun x _=>ZP x) h.owners
 unfold Zc9
 rw [List.length_append,List.length_append]
 omega
theorem ZAC (l:List Int) (hl:l.length≤70000000000) (v:V7) (h:v.Good):ZwA (Zc l) v.number (Za v.members) (Za v.owners)=some (Zc (l++Zc9 v)):=by
 have h1:=ZP v.number
 have h2:=J6 nB 11 _ v.members (fun x _=>ZP x) h.members
 have h3:=h.members
 have h4:=h.owners
 rw [ZsB,s38 l (by omega) h.num.1 h.num.2,Option.bind_some,ZBh _ _ (by rw [List.length_append];omega) (by omega) h.member,Option.bind_some,ZBh _ _ (by rw [List.length_append,List.length_append];omega) (by omega) h.owner,Option.bind_some]
 simp only [Zc9,List.append_assoc]
theorem s48 (l:List Int) (hl:l.length≤70000000000) (v:V7) (h:v.Good):g48 (Zc l) v.number (Za v.members) (Za v.owners)=some (Zc (l++Zc9 v)):=by
 have h1:=ZP v.number
 have h2:=J6 nB 11 _ v.members (fun x _=>ZP x) h.members
 have h3:=h.members
 have h4:=h.owners
 rw [Zvi,s40 l (by omega) h.num.1 h.num.2,Option.bind_some,s45 _ _ (by rw [List.length_append];omega) (by omega) h.member,Option.bind_some,s45 _ _ (by rw [List.length_append,List.length_append];omega) (by omega) h.owner,Option.bind_some]
 simp only [Zc9,List.append_assoc]
structure JF.Good (r:JF):Prop where
 core:N63 r.core
 view:r.view.Good
 state:r.state.Good
 next:r.next.Good
 proposal:r.proposal.Good
def Zo2 (r:JF):List Int:=nB r.core++(Zc9 r.view++(Wd r.state++(bB r.ready++(Zc9 r.next++Wd r.proposal))))
theorem ZmK (b:Bool):(bB b).length≤11:=by
 unfold bB
 split
 ·exact ZP 1
 ·exact ZP 0
theorem ZmH (r:JF) (h:r.Good):(Zo2 r).length≤7000000000:=by
 have h1:=ZP r.core
 have h2:=K6 _ h.view
 have h3:=Vl _ h.state
 have h4:=ZmK r.ready
 have h5:=K6 _ h.next
 have h6:=Vl _ h.proposal
 unfold Zo2
 rw [List.length_append,List.length_append,List.length_append,List.length_append,List.length_append]
 omega
theorem ZD6 (l:List Int) (hl:l.length≤50000000000) (r:JF) (h:r.Good):ZAP (Zc l) r.core r.view.number (Za r.view.members) (Za r.view.owners) (r.state.slots.map Zg) (r.state.pending.map Zv) (r.state.marks.map Zh) (r.state.answers.map Zx) (r.state.entries.map Ze) (Zb r.state.commits) r.ready r.next.number (Za r.next.members) (Za r.next.owners) (r.proposal.slots.map Zg) (r.proposal.pending.map Zv) (r.proposal.marks.map Zh) (r.proposal.answers.map Zx) (r.proposal.entries.map Ze) (Zb r.proposal.commits)=some (Zc (l++Zo2 r)):=by
 have h1:=ZP r.core
 have h2:=K6 _ h.view
 have h3:=Vl _ h.state
 have h4:=ZmK r.ready
 have h5:=K6 _ h.next
 rw [ZrH,s38 l (by omega) h.core.1 h.core.2,Option.bind_some,ZAC _ (by rw [List.length_append];omega) _ h.view,Option.bind_some,ZCu _ (by rw [List.length_append,List.length_append];omega) _ h.state,Option.bind_some,ZCN _ (by rw [List.length_append,List.length_append,List.length_append];omega),Option.bind_some,ZAC _ (by rw [List.length_append,List.length_append,List.length_append,List.length_append];omega) _ h.next,Option.bind_some,ZCu _ (by rw [List.length_append,List.length_append,List.length_append,List.length_append,List.length_append];omega) _ h.proposal,Option.bind_some]
 simp only [Zo2,List.append_assoc]
theorem s46 (l:List Int) (hl:l.length≤50000000000) (r:JF) (h:r.Good):g46 (Zc l) r.core r.view.number (Za r.view.members) (Za r.view.owners) (r.state.slots.map Zg) (r.state.pending.map Zv) (r.state.marks.map Zh) (r.state.answers.map Zx) (r.state.entries.map Ze) (Zb r.state.commits) r.ready r.next.number (Za r.next.members) (Za r.next.owners) (r.proposal.slots.map Zg) (r.proposal.pending.map Zv) (r.proposal.marks.map Zh) (r.proposal.answers.map Zx) (r.proposal.entries.map Ze) (Zb r.proposal.commits)=some (Zc (l++Zo2 r)):=by
 have h1:=ZP r.core
 have h2:=K6 _ h.view
 have h3:=Vl _ h.state
 have h4:=ZmK r.ready
 have h5:=K6 _ h.next
 rw [ZxL,s40 l (by omega) h.core.1 h.core.2,Option.bind_some,s48 _ (by rw [List.length_append];omega) _ h.view,Option.bind_some,s47 _ (by rw [List.length_append,List.length_append];omega) _ h.state,Option.bind_some,s42 _ (by rw [List.length_append,List.length_append,List.length_append];omega),Option.bind_some,s48 _ (by rw [List.length_append,List.length_append,List.length_append,List.length_append];omega) _ h.next,Option.bind_some,s47 _ (by rw [List.length_append,List.length_append,List.length_append,List.length_append,List.length_append];omega) _ h.proposal,Option.bind_some]
 simp only [Zo2,List.append_assoc]
end Go.Proofs.YtjldbnbdcmfbmaaGreat
end
