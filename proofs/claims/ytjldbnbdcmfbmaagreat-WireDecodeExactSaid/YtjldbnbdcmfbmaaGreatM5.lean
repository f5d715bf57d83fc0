import Derived.Test.YtjldbnbdcmfbmaaGreatM4
import Derived.Test.YtjldbnbdcmfbmaaGreatM3
import Derived.Test.YtjldbnbdcmfbmaaGreatF8f
open Option renaming some→Xa,bind_some→Xd,none→Xe,bind→X8
open Bool renaming true→Xb,false→Xc,and_eq_true→Xj,not_eq_true'→Xu,false_eq_true→Xw,not_eq_true→XE,or_eq_true→XF,not_eq_false→XK,not_eq_false'→XN,true_eq_false→XO,false_ne_true→UE
open List renaming length_append→Xf,length→Xh,length_map→Xk,append_assoc→Xl,length_nil→Xm,map_cons→Xn,all_eq_true→Xo,getElem_mem→Xq,mem_cons→Xs,length_cons→Xv,replicate→Xx,mem_append→Xz,mem_map→XB,flatten_cons→XD,map_nil→XI,nil_append→XM,mem_of_mem_take→XS,cons_append→XV,append_nil→XY,mem_of_mem_drop→X4,drop_zero→X7,flatten_nil→Uf,mem_singleton→Uh,eq_nil_of_length_eq_zero→Um,length_drop→Un,drop_of_length_le→Up,map_take→Uq,drop→Uw,map_drop→Uy,mem_range→UC,drop_eq_getElem_cons→UF,take_of_length_le→UM,drop_drop→UU,contains_iff_mem→UZ,mem_flatten→U4,not_mem_nil→Tm,take_length→Ty
open Option.some renaming injEq→Xg,inj→Ua
open Go.IntKind renaming wrap→Xi
open Nat renaming le_refl→Xr,zero_le→XT,le_trans→XX,add_assoc→Ui,pow_succ→UJ,div_lt_of_lt_mul→UQ,mul_one→UV,mul_le_mul_left→U3,pow_le_pow_right→Tk,mul_le_mul→Tl
open Prod.mk renaming injEq→XG,inj→U0
open Int renaming toNat→XJ,toNat_natCast→Uk,tmod_eq_emod_of_nonneg→UT,mul_le_mul_of_nonneg_right→U9,natCast_mul→Tw,natCast_pow→TE,fdiv_eq_ediv_of_nonneg→T5
open Eq renaming trans→XR
set_option linter.unusedVariables false
set_option linter.unusedSimpArgs false
set_option linter.defProp false
namespace Go.Proofs.YtjldbnbdcmfbmaaGreat
noncomputable section
open Go Go.AM
set_option maxRecDepth 100000
def uvm:Nat→Nat→List Int
 | 0, _ => []
 | 1, v => [((v % 128 : Nat) : Int)]
 | m + 2, v => ((v % 128 + 128 : Nat) : Int) :: uvm (m + 1) (v / 128)
def cnt:Nat→Nat→Nat
 | 0, _ => 0
 | k + 1, r => if r = 0 then 0 else 1 + cnt k (r / 128)
def uvN (v:Nat):Nat:=1+cnt 10 (v / 128)
def uv (v:Nat):List Int:=uvm (uvN v) v
def Zqw:∀ (k r:Nat),cnt k r≤k
 | 0, _ => Xr _
 | k + 1, r => by
  unfold cnt;split
  ·omega
  ·have:=Zqw k (r / 128);omega
def ZoO:∀ (m v:Nat),(uvm m v).length=m
 | 0, _ => rfl
 | 1, _ => rfl
 | m + 2, v => by simp [uvm, ZoO (m + 1)]
def Zjb:∀ (m v:Nat),Zq (uvm m v)
 | 0, _ => by simp [uvm, Zq]
 | 1, v => by
  intro z a;rw [uvm,Uh] at a;omega
 | m + 2, v => by
  intro z a;rw [uvm,Xs] at a;rcases a with rfl | a
  ·omega
  ·exact Zjb (m+1) (v / 128) z a
def ZHJ (r:Nat):P1 .shr .u64 (r:Int) 7=((r / 128:Nat):Int):=by
 have a:min ((7:Int)).toNat IntKind.u64.bits=7:=by
  have:IntKind.u64.bits=64:=rfl;omega
 simp only [P1,a];rw [T5 _ (by decide)];rfl
def Zz2 (v:Nat):Xi .u8 (P1 .and .u64 (v:Int) 127)=((v % 128:Nat):Int):=by
 have c:(BitVec.ofInt 64 (v:Int)&&& BitVec.ofInt 64 127).toNat=v % 128:=by
  rw [BitVec.toNat_and,BitVec.toNat_ofInt,BitVec.toNat_ofInt];have a:((127:Int) % ((2^64:Nat):Int)).toNat=2^7-1:=by decide
  rw [a,Nat.and_two_pow_sub_one_eq_mod];have b:(2:Nat)^64=18446744073709551616:=by decide
  have d:(2:Nat)^7=128:=by decide
  rw [b,d];omega
 show Xi .u8 (Xi .u64 (((BitVec.ofInt 64 (v:Int)&&& BitVec.ofInt 64 127).toNat:Nat):Int))=_;rw [c,Jc (by omega) (by have:(2:Int)^64=18446744073709551616:=(by decide);omega),ZeK];omega
def ZEG {c:Nat} (h:c < 128):P1 .or .u8 (c:Int) 128=((c+128:Nat):Int):=by
 have:∀ c:Fin 128,P1 .or .u8 ((c.val:Nat):Int) 128=((c.val+128:Nat):Int):=by decide +kernel
 exact this ⟨c,h⟩
def ZdL (a b:List Int):Za (a++b)=Za a++Za b:=by simp [Za]
def V1 {a b:List Int} (c:Zq a) (d:Zq b):Zq (a++b):=by
 intro z e;rcases Xz.1 e with h | h
 ·exact c z h
 ·exact d z h
def Znm:∀ (a b:List Int) (y z:Int),Jk (Za (a++y::b)) a.length 0 [AV.val (.int .u8 z)]=Za (a++z::b)
 | [], b, y, z => by simp [Jk, Za, u8c, setCells, List.modify_zero_cons]
 | x :: a, b, y, z => by
  have ih:=Znm a b y z;simp only [Jk,Za] at ih ⊢;simp only [XV,Xn,Xv,List.modify_succ_cons,ih]
def ZHb {x0:List (List AV)} {v:Int} (n:x0.length≤100000000000):∀ (k a r s:Nat),r < 128^k→k < a→s+k≤100→∀ (y:Option (List (List AV))),
  Zey Zr x0 v ((s+cnt k r:Nat):Int) (ZnF (Xx (x0.length+(s+cnt k r)) [AV.val (.int .u8 0)]) x0) 0=y→Zh8 a x0 v s r=y:=by
 have b:∀ (f s:Nat),s≤100→∀ (y:Option (List (List AV))),Zey Zr x0 v (s:Int) (ZnF (Xx (x0.length+s) [AV.val (.int .u8 0)]) x0) 0=y→Zh8 (f+1) x0 v s (0:Nat)=y:=by
  intro f s g y c;have h:P1 .add .i64 (x0.length:Int) (s:Int)=((x0.length+s:Nat):Int):=by rw [JE (by omega) (by omega)];omega
  rw [Zjv,P3 (by decide),h,Zg ⟨by omega,by unfold Yh;omega⟩,Zg (Int.le_refl _),Zg (Int.le_refl _),Uk];exact c
 intro k
 induction k with
 | zero =>
  intro a r s e i g y c;obtain ⟨f,rfl⟩:∃ f,a=f+1:=⟨a-1,by omega⟩;have d:r=0:=by simpa using e
  subst d;exact b f s (by omega) y c
 | succ k ih =>
  intro a r s e i g y c;obtain ⟨f,rfl⟩:∃ f,a=f+1:=⟨a-1,by omega⟩;by_cases d:r=0
  ·subst d;exact b f s (by omega) y c
  ·have j:cnt (k+1) r=1+cnt k (r / 128):=by rw [cnt,P3 d]
   have l:r / 128 < 128^k:=by
    rw [UJ] at e;exact UQ (by omega)
   have m:P1 .add .i64 (s:Int) 1=((s+1:Nat):Int):=by rw [JE (by omega) (by omega)];omega
   rw [Zjv,P4 (by simp only [CQ];omega),Zg (by decide),m,ZHJ];refine ih f (r / 128) (s+1) l (by omega) (by omega) y ?_;rw [j] at c;rw [show s+1+cnt k (r / 128)=s+(1+cnt k (r / 128)) by omega];exact c
def ZHk (l:List Int) {size:Nat} (p:l.length+size≤200000000000):∀ (m b i v:Nat) (a:List Int),size=i+m→m < b→a.length=i→
  Zey b (Za l) (v:Int) (size:Int) (Za (l++a++Xx m 0)) (i:Int)=Xa (Za (l++a++uvm m v)):=by
 intro m
 induction m with
 | zero =>
  intro b i v a h g d;obtain ⟨f,rfl⟩:∃ f,b=f+1:=⟨b-1,by omega⟩;rw [Zh5,P3 (by simp only [CQ];omega)];simp [uvm]
 | succ m ih =>
  intro b i v a h g d;obtain ⟨f,rfl⟩:∃ f,b=f+1:=⟨b-1,by omega⟩;have j:P1 .sub .i64 (size:Int) 1=((size-1:Nat):Int):=by rw [Ze0 (by omega) (by omega)];omega
  have k:P1 .add .i64 (l.length:Int) (i:Int)=((l.length+i:Nat):Int):=by rw [JE (by omega) (by omega)];omega
  have n:P1 .add .i64 (i:Int) 1=((i+1:Nat):Int):=by rw [JE (by omega) (by omega)];omega
  have e:(l++a).length=l.length+i:=by simp [d]
  have c:∀ z:Int,Jk (Za (l++a++Xx (m+1) 0)) (l.length+i) 0 [AV.val (.int .u8 z)]=Za (l++(a++[z])++Xx m 0):=by
   intro z;have:=Znm (l++a) (Xx m 0) 0 z;rw [e] at this;rw [List.replicate_succ,this];simp [Xl]
  have o:Xh (Za (l++a++Xx (m+1) 0))=l.length+size:=by rw [ZB];simp [d];omega
  rw [Zh5,P4 (by simp only [CQ];omega),o,ZB l,j,k,n,ZHJ,Uk,Zz2,ZEG (Nat.mod_lt _ (by decide)),c,c]
  cases m with
  | zero =>
   rw [P3 (by simp only [CQ];omega),Zg (by omega),Zg (by omega),Zg (by omega),Zg (by omega),Zg (by decide)];have:=ih f (i+1) (v / 128) (a++[((v % 128:Nat):Int)]) (by omega) (by omega) (by simp [d]);rw [this];simp [uvm]
  | succ m =>
   rw [P4 (by simp only [CQ];omega),Zg (by omega),Zg (by omega),Zg (by omega),Zg (by omega),Zg (by decide)];have:=ih f (i+1) (v / 128) (a++[((v % 128+128:Nat):Int)]) (by omega) (by omega) (by simp [d]);rw [this];simp [uvm,Xl]
def ZsV (l:List Int) (n:Nat):ZnF (Xx (l.length+n) [AV.val (.int .u8 0)]) (Za l)=Za (l++Xx n 0):=by
 unfold ZnF;rw [List.length_replicate,UM (by rw [ZB];omega),ZB,List.drop_replicate,ZdL];have:l.length+n-l.length=n:=by omega
 rw [this];congr 1;simp [Za,u8c]
def ZIU (l:List Int) (b:l.length≤100000000000) (v:Nat) (d:v < 2^64):ZvW (Za l) v=Xa (Za (l++uv v)):=by
 rw [Zw2,Zg (by decide),ZHJ];have c:(2:Nat)^64=18446744073709551616:=by decide
 have a:(128:Nat)^10=1180591620717411303424:=by decide
 refine ZHb (by rw [ZB];exact b) 10 Zr (v / 128) 1 (by omega) (JW (by decide)) (by decide) _ ?_;rw [ZB,ZsV];have e:=Zqw 10 (v / 128);have:=ZHk l (size:=1+cnt 10 (v / 128)) (by omega) (1+cnt 10 (v / 128)) Zr 0 v [] (by omega) (JW (by omega)) rfl;rw [XY] at this;exact this
def YG (v:Nat):(uv v).length=uvN v:=ZoO _ _
def VI (v:Nat):uvN v≤11:=by have:=Zqw 10 (v / 128);unfold uvN;omega
def Kz (v:Nat):Zq (uv v):=Zjb _ _
def idB (i:Id):List Int:=uv i.core.toNat++uv i.op.toNat++uv i.part.toNat
def YP (i:Id):(idB i).length≤33:=by
 have a:=VI i.core.toNat;have b:=VI i.op.toNat;have c:=VI i.part.toNat;simp only [idB,Xf,YG];omega
def Zi2 (l:List Int) (b:l.length≤100000000000) (z:Int) (c:0≤z) (g:z < 2^63):ZvW (Za l) (Xi .u64 z)=Xa (Za (l++uv z.toNat)):=by
 have d:(2:Int)^63=9223372036854775808:=by decide
 have f:(2:Int)^64=18446744073709551616:=by decide
 have a:(2:Nat)^64=18446744073709551616:=by decide
 have e:Xi .u64 z=((z.toNat:Nat):Int):=by rw [Jc c (by omega)];omega
 rw [e];exact ZIU l b z.toNat (by omega)
def Zdx {i:Id} (h:Vx i=Xb):0≤i.core∧i.core < 32∧1≤i.op∧i.op≤1073741824∧0≤i.part∧i.part < 8:=by simpa [Vx] using h
def ZID (l:List Int) (m:l.length≤90000000000) (i:Id) (b:Vx i=Xb):ZBm (Za l) i.core i.op i.part=Xa (Za (l++idB i)):=by
 obtain ⟨c,n,o,p,q,s⟩:=Zdx b;obtain ⟨f,d⟩:=Zlj;have g:(2:Int)^63=9223372036854775808:=by decide
 have t:=VI i.core.toNat;have u:=VI i.op.toNat;have e:(((E0++[[I i.core]])++[[I i.op]])++[[I i.part]]) = [WS i.core,WS i.op,WS i.part]:=rfl;have h:P1 .add .i64 0 1=1:=by decide
 have j:P1 .add .i64 1 1=2:=by decide
 have k:P1 .add .i64 2 1=3:=by decide
 have a:(([WS i.core,WS i.op,WS i.part] : List (List AV)).length:Int)=3:=rfl;rw [Zpz,e,d,a]
 rw [KH,P4 (by decide),Y2 (sh:=[.int .i64]) (cs:=WS i.core) (r:=i.core) _ (by decide) rfl rfl,Zi2 l (by omega) i.core c (by omega),Xd,h,
  KH,P4 (by decide),Y2 (sh:=[.int .i64]) (cs:=WS i.op) (r:=i.op) _ (by decide) rfl rfl,Zi2 _ (by rw [Xf,YG];omega) i.op (by omega) (by omega),Xd,j,
  KH,P4 (by decide),Y2 (sh:=[.int .i64]) (cs:=WS i.part) (r:=i.part) _ (by decide) rfl rfl,Zi2 _ (by rw [Xf,Xf,YG,YG];omega) i.part (by omega) (by omega),Xd,k,
  KH,P3 (by decide)]
 simp [idB,Xl]
def Yq (n:Yc):List Int:=idB n.id++uv n.path.length++(n.path.map idB).flatten++Jv n.cap
def Yp (n:Yc):List Int:=if ZD n=Xb then Yq n else []
def ZpU (n:Yc):Int:=if ZD n=Xb then 0 else 1
def Vt {n:Yc} (h:ZD n=Xb):Vx n.id=Xb∧YH n.cap=Xb∧n.path.length≤8∧∀ i,i < n.path.length→VG n i=Xb:=by
 simp only [ZD,Xj,P5,Xo,UC] at h;exact ⟨h.1.1.1,h.1.1.2,h.1.2,h.2⟩
def Zg8 {n:Yc} (h:ZD n=Xb) (x:Id) (b:x∈n.path):Vx x=Xb:=by
 obtain ⟨i,a⟩:=List.mem_iff_getElem?.1 b;have:=(Vt h).2.2.2 i (List.getElem?_eq_some_iff.1 a).1;unfold VG at this;rw [a] at this;simp only [Xj] at this;exact this.1.1
def ZK7 (n:Yc) (d:ZD n=Xb):∀ (j i a:Nat) (b:List Int),n.path.length=i+j→j < a→b.length≤1000+33*i→
  ZlS a n.id.core n.id.op n.id.part (Ze n.path) n.cap.kind n.cap.base n.cap.bits n.cap.rights n.cap.width n.cap.level n.cap.device (Za b) (Ze n.path) (n.path.length:Int) i =
   Xa (Za (b++((n.path.drop i).map idB).flatten++Jv n.cap),0):=by
 obtain ⟨r,g,s,t⟩:=Vt d;intro j
 induction j with
 | zero =>
  intro i a b h k l;obtain ⟨f,rfl⟩:∃ f,a=f+1:=⟨a-1,by omega⟩
  have m:ZcW ⟨n.cap.kind,n.cap.base,n.cap.bits,n.cap.rights,n.cap.width,n.cap.level,n.cap.device⟩=Jv n.cap:=by
   show ZcW n.cap=_;unfold ZcW;rw [P4 g]
  rw [ZjT,P3 (by simp only [CQ];omega),ZKU,Xd,m,Zg (room1 (by rw [ZB];omega) (by rw [ZB];simp [Jv])),Up (by omega)];simp [ZdL]
 | succ j ih =>
  intro i a b h k l;obtain ⟨f,rfl⟩:∃ f,a=f+1:=⟨a-1,by omega⟩;have e:i < n.path.length:=by omega
  have c:n.path[(i:Int).toNat]? = Xa n.path[i]:=by simp
  have o:P1 .add .i64 i 1=((i+1:Nat):Int):=by rw [JE (by omega) (by omega)];omega
  have p:=Zg8 d n.path[i] (Xq e);have q:=YP n.path[i];rw [ZjT,P4 (by simp only [CQ];omega),Wj _ (by omega) c,ZID b (by omega) _ p,Xd,o,ih (i+1) f _ (by omega) (by omega) (by rw [Xf];omega),UF e];simp only [Xn,XD,Xl]
def ZLr (n:Yc) (a:n.path.length < 2^63):ZFT n.id.core n.id.op n.id.part (Ze n.path) n.cap.kind n.cap.base n.cap.bits n.cap.rights n.cap.width n.cap.level n.cap.device=Xa (Za (Yp n),ZpU n):=by
 rw [Zvq,s95 n a,Xd];unfold Yp ZpU
 cases hn:ZD n with
 | false => rfl
 | true =>
  obtain ⟨b,e,f,g⟩:=Vt hn;have c:=YP n.id;have h:=VI n.path.length;have d:E0=Za []:=rfl;rw [P3 (by simp),d,ZID [] (by simp) n.id b,Xd,XM,ZX,Zi2 _ (by omega) _ (by omega) (by omega),Xd,Uk,P4 rfl,P4 rfl];have:=ZK7 n hn n.path.length 0 Zr (idB n.id++uv n.path.length) (by omega) (JW (by omega)) (by rw [Xf,YG];omega);refine this.trans ?_;rfl
def Zml:∀ (k r:Nat),r < 128^k→cnt (k+1) r=cnt k r
 | 0, r, h => by
  have:r=0:=by simpa using h
  subst this;rfl
 | k + 1, r, h => by
  have e:∀ (m r:Nat),cnt (m+1) r=if r=0 then 0 else 1+cnt m (r / 128):=fun _ _=>rfl;rw [e (k+1) r,e k r];by_cases h0:r=0
  ·rw [P4 h0,P4 h0]
  ·have a:r / 128 < 128^k:=by
    rw [UJ] at h;exact UQ (by omega)
   rw [P3 h0,P3 h0,Zml k _ a]
def Y6 {v:Nat} (g:v < 2^64):uv v=if v < 128 then [(v:Int)] else ((v % 128+128:Nat):Int)::uv (v / 128):=by
 have d:(2:Nat)^64=18446744073709551616:=by decide
 by_cases h:v < 128
 ·rw [P4 h];have a:v / 128=0:=by omega
  have b:uvN v=1:=by rw [uvN,a];rfl
  have e:v % 128=v:=by omega
  rw [uv,b,uvm,e]
 ·rw [P3 h];have a:v / 128≠0:=by omega
  have f:cnt 10 (v / 128 / 128)=cnt 9 (v / 128 / 128):=Zml 9 _ (by
   have:(128:Nat)^9=9223372036854775808:=by decide
   omega)
  have b:uvN v=uvN (v / 128)+1:=by rw [uvN,uvN,f,cnt,P3 a];omega
  have c:uvN v=(cnt 10 (v / 128 / 128))+2:=by rw [b,uvN];omega
  rw [uv,c,uvm,uv,uvN];rw [show 1+cnt 10 (v / 128 / 128)=cnt 10 (v / 128 / 128)+1 by omega]
def Zhe {v:Nat} (a:v < 2^64):uvN v=if v < 128 then 1 else uvN (v / 128)+1:=by
 rw [← YG,Y6 a];split
 ·rfl
 ·rw [Xv,YG]
def ZKQ:∀ (k a v:Nat) (l:List Int),v < 2^63→v < 128^(k+1)→k < a→l.length+k≤100000000000→Zix a (Za l) (v:Int)=Xa (Za (l++uv v)):=by
 have h:(2:Nat)^63=9223372036854775808:=by decide
 have i:(2:Nat)^64=18446744073709551616:=by decide
 have c:∀ (l:List Int) (z:Int),Za l++(E0++[[AV.val (.int .u8 z)]])=Za (l++[z]):=by intro l z;simp [Za,u8c]
 have b:∀ (f v:Nat) (l:List Int),v < 128→l.length≤100000000000→Zix (f+1) (Za l) (v:Int)=Xa (Za (l++uv v)):=by
  intro f v l d g;have w:Xi .u8 (v:Int)=(v:Int):=by rw [ZeK];omega
  rw [Zh4,P3 (by simp only [CQ];omega),Zg (room1 (by rw [ZB];omega) (by simp)),w,c,Y6 (by omega),P4 d]
 intro k
 induction k with
 | zero =>
  intro a v l j e m g;obtain ⟨f,rfl⟩:∃ f,a=f+1:=⟨a-1,by omega⟩;exact b f v l (by simpa using e) (by omega)
 | succ k ih =>
  intro a v l j e m g;obtain ⟨f,rfl⟩:∃ f,a=f+1:=⟨a-1,by omega⟩;by_cases d:v < 128
  ·exact b f v l d (by omega)
  ·have n:v / 128 < 128^(k+1):=by
    rw [UJ] at e;exact UQ (by omega)
   have o:P1 .rem .i64 (v:Int) 128=((v % 128:Nat):Int):=by
    show (v:Int).tmod 128=_;rw [UT (by omega)];omega
   have p:P1 .add .i64 ((v % 128:Nat):Int) 128=((v % 128+128:Nat):Int):=by rw [JE (by omega) (by omega)];omega
   have q:Xi .u8 ((v % 128+128:Nat):Int)=((v % 128+128:Nat):Int):=by rw [ZeK];omega
   have r:P1 .quo .i64 (v:Int) 128=((v / 128:Nat):Int):=by
    show Xi .i64 ((v:Int).tdiv 128)=_;rw [Int.tdiv_eq_ediv_of_nonneg (by omega),YK (by omega) (by omega)];omega
   rw [Zh4,P4 (by simp only [CQ];omega),Zg (by decide),Zg (room1 (by rw [ZB];omega) (by simp)),Zg (by decide),o,p,q,r,c,
    ih f (v / 128) _ (by omega) n (by omega) (by rw [Xf];simp;omega),Y6 (v:=v) (by omega),P3 d]
   simp [Xl]
def Zt2 (l:List Int) (d:l.length≤90000000000) (z:Int) (f:0≤z) (g:z < 2^63):Zv3 (Za l) z=Xa (Za (l++uv z.toNat)):=by
 have c:(2:Int)^63=9223372036854775808:=by decide
 have a:(2:Nat)^63=9223372036854775808:=by decide
 have b:(128:Nat)^11=151115727451828646838272:=by decide
 have e:z=((z.toNat:Nat):Int):=by omega
 rw [ZwT];have:=ZKQ 10 Zr z.toNat l (by omega) (by omega) (JW (by decide)) (by omega);rw [← e] at this;exact this
def s43 (l:List Int) (d:l.length≤80000000000) (i:Id) (a:Vx i=Xb):g43 (Za l) i.core i.op i.part=Xa (Za (l++idB i)):=by
 obtain ⟨b,e,f,g,h,j⟩:=Zdx a;have c:(2:Int)^63=9223372036854775808:=by decide
 have k:=VI i.core.toNat;have m:=VI i.op.toNat
 rw [ZtP,Zt2 l (by omega) i.core b (by omega),Xd,Zt2 _ (by rw [Xf,YG];omega) i.op (by omega) (by omega),Xd,
  Zt2 _ (by rw [Xf,Xf,YG,YG];omega) i.part (by omega) (by omega),Xd]
 simp [idB,Xl]
def ZKX (n:Yc) (d:ZD n=Xb):∀ (j i a:Nat) (b:List Int),n.path.length=i+j→j < a→b.length≤1000+33*i→
  Zm5 a n.id.core n.id.op n.id.part (Ze n.path) n.cap.kind n.cap.base n.cap.bits n.cap.rights n.cap.width n.cap.level n.cap.device (Za b) i =
   Xa (Za (b++((n.path.drop i).map idB).flatten++Jv n.cap),0):=by
 obtain ⟨r,g,s,t⟩:=Vt d;intro j
 induction j with
 | zero =>
  intro i a b h k l;obtain ⟨f,rfl⟩:∃ f,a=f+1:=⟨a-1,by omega⟩
  have m:ZcW ⟨n.cap.kind,n.cap.base,n.cap.bits,n.cap.rights,n.cap.width,n.cap.level,n.cap.device⟩=Jv n.cap:=by
   show ZcW n.cap=_;unfold ZcW;rw [P4 g]
  rw [Zir,P3 (by simp only [CQ,ZX];omega),ZKC,Xd,m,Zg (room1 (by rw [ZB];omega) (by rw [ZB];simp [Jv])),Up (by omega)];simp [ZdL]
 | succ j ih =>
  intro i a b h k l;obtain ⟨f,rfl⟩:∃ f,a=f+1:=⟨a-1,by omega⟩;have e:i < n.path.length:=by omega
  have c:n.path[(i:Int).toNat]? = Xa n.path[i]:=by simp
  have o:P1 .add .i64 i 1=((i+1:Nat):Int):=by rw [JE (by omega) (by omega)];omega
  have p:=Zg8 d n.path[i] (Xq e);have q:=YP n.path[i];rw [Zir,P4 (by simp only [CQ,ZX];omega),Wj _ (by omega) c,s43 b (by omega) _ p,Xd,o,ih (i+1) f _ (by omega) (by omega) (by rw [Xf];omega),UF e];simp only [Xn,XD,Xl]
def ZDP (n:Yc) (a:n.path.length < 2^63):Zx1 n.id.core n.id.op n.id.part (Ze n.path) n.cap.kind n.cap.base n.cap.bits n.cap.rights n.cap.width n.cap.level n.cap.device=Xa (Za (Yp n),ZpU n):=by
 rw [Zxm,s61 n a,Xd];unfold Yp ZpU
 cases hn:ZD n with
 | false => rfl
 | true =>
  obtain ⟨b,e,f,g⟩:=Vt hn;have c:=YP n.id;have h:=VI n.path.length;have d:E0=Za []:=rfl;rw [P3 (by simp),d,s43 [] (by simp) n.id b,Xd,XM,ZX,Zt2 _ (by omega) _ (by omega) (by omega),Xd,Uk,P4 rfl,P4 rfl];have:=ZKX n hn n.path.length 0 Zr (idB n.id++uv n.path.length) (by omega) (JW (by omega)) (by rw [Xf,YG];omega);refine this.trans ?_;rfl
def ZjL (z:Int):0≤IntKind.u64.wrap z∧IntKind.u64.wrap z < 2^64:=by
 have b:IntKind.u64.signed=Xc:=rfl;have c:IntKind.u64.bits=64:=rfl;have a:(2:Int)^64=18446744073709551616:=by decide
 simp only [Xi,b,c,Bool.false_and,if_false,Xw,a];omega
def ZnY (a b:Int):P1 .xor .u64 a b=(((BitVec.ofInt 64 a ^^^ BitVec.ofInt 64 b).toNat:Nat):Int):=by
 have h:=(BitVec.ofInt 64 a ^^^ BitVec.ofInt 64 b).isLt;show IntKind.u64.wrap (((BitVec.ofInt 64 a ^^^ BitVec.ofInt 64 b).toNat:Nat):Int)=_;exact Jc (by omega) (by have:(2:Int)^64=((2^64:Nat):Int):=(by decide);omega)
def Zom (a b:Int):P1 .xor .u64 a b=P1 .xor .u64 b a:=by rw [ZnY,ZnY,BitVec.xor_comm]
def Zop {a:Int} (c:0≤a) (d:a < 2^64):P1 .xor .u64 a 0=a:=by
 have b:(2:Int)^64=18446744073709551616:=by decide
 have e:BitVec.ofInt 64 (0:Int)=0#64:=rfl;rw [ZnY,e,BitVec.xor_zero,BitVec.toNat_ofInt];omega
def sgV (z:Int):Int:=if z < 0 then P1 .xor .u64 18446744073709551615 (P1 .shl .u64 (Xi .u64 z) 1) else P1 .shl .u64 (Xi .u64 z) 1
def Zlq (z:Int):0≤P1 .shl .u64 (Xi .u64 z) 1∧P1 .shl .u64 (Xi .u64 z) 1 < 2^64:=ZjL _
def ZaS (z:Int):0≤sgV z∧sgV z < 2^64:=by
 unfold sgV;split
 ·rw [ZnY];have h:=(BitVec.ofInt 64 18446744073709551615 ^^^ BitVec.ofInt 64 (P1 .shl .u64 (Xi .u64 z) 1)).isLt;have:(2:Int)^64=((2^64:Nat):Int):=by decide
  omega
 ·exact Zlq z
def Zv2 {z:Int} (d : -(2^63:Int)≤z) (f:z < 2^63):P1 .xor .u64 (P1 .shl .u64 (Xi .u64 z) 1) (Xi .u64 (P1 .shr .i64 z 63))=sgV z:=by
 have c:(2:Int)^63=9223372036854775808:=by decide
 have e:P1 .shr .i64 z 63=z / 2^63:=Zen (n:=63) (by decide);rw [e];unfold sgV;by_cases hz:z < 0
 ·have a:z / 2^63 = -1:=by omega
  have b:IntKind.u64.wrap (-1)=18446744073709551615:=by decide
  rw [a,b,P4 hz,Zom]
 ·have a:z / 2^63=0:=by omega
  have b:IntKind.u64.wrap 0=0:=by decide
  rw [a,b,P3 hz,Zop (Zlq z).1 (Zlq z).2]
def sgB (z:Int):List Int:=uv (sgV z).toNat
def ZLc (l:List Int) (d:l.length≤80000000000) {z:Int} (a : -(2^63:Int)≤z) (b:z < 2^63):ZEx (Za l) z=Xa (Za (l++sgB z)):=by
 have f:=ZaS z;have c:(2:Int)^64=((2^64:Nat):Int):=by decide
 have e:sgV z=(((sgV z).toNat:Nat):Int):=by omega
 rw [ZxV,Zg (by decide),Zg (by decide),Zv2 a b,e,ZIU l (by omega) _ (by omega),Xd];rfl
def VB {o:Type} {F:Nat→List (List AV)→Int→Option (List (List AV))} {l:List o} (c:o→List Int) (b lim:Nat) (p:l.length < 2^63) (q:∀ x∈l,(c x).length≤b)
  (g:∀ (k i:Nat) (a:List Int) (m:i < l.length),a.length≤lim→F (k+1) (Za a) (i:Int)=F k (Za (a++c l[i])) ((i+1:Nat):Int))
  (e:∀ (k i:Nat) (a:List Int),l.length≤i→F (k+1) (Za a) (i:Int)=Xa (Za a)) (a:List Int) (r:a.length+b*l.length≤lim) :
  F Zr (Za a) 0=Xa (Za (a++(l.map c).flatten)):=by
 have n:∀ (j i d:Nat) (a:List Int),l.length≤i+j→j < d→a.length+b*(l.length-i)≤lim→F d (Za a) (i:Int)=Xa (Za (a++((l.drop i).map c).flatten)):=by
  intro j
  induction j with
  | zero =>
   intro i d a h s _;obtain ⟨f,rfl⟩:∃ f,d=f+1:=⟨d-1,by omega⟩;rw [e f i a (by omega),Up (by omega)];simp
  | succ j ih =>
   intro i d a h s t;obtain ⟨f,rfl⟩:∃ f,d=f+1:=⟨d-1,by omega⟩;by_cases m:i < l.length
   ·have u:=q _ (Xq m)
    have v:b*(l.length-i)=b+b*(l.length-(i+1)):=by
     rw [show l.length-i=(l.length-(i+1))+1 by omega,Nat.mul_add,UV,Nat.add_comm]
    rw [g f i a m (by omega),ih (i+1) f (a++c l[i]) (by omega) (by omega) (by rw [Xf];omega),UF m,Xn,XD,Xl]
   ·rw [e f i a (by omega),Up (by omega)];simp
 have:=n l.length 0 Zr a (by omega) (by have:=Yi p;omega) (by simpa using r);simpa using this
def Zu2 (v:Nat):(uv v).length≤11:=by rw [YG];exact VI v
def nB (z:Int):List Int:=uv z.toNat
def ZU (z:Int):(nB z).length≤11:=Zu2 _
def s38 (l:List Int) (c:l.length≤80000000000) {z:Int} (a:0≤z) (b:z < 2^63):g38 (Za l) z=Xa (Za (l++nB z)):=by
 rw [ZAi,Zi2 l (by omega) z a b];rfl
def s40 (l:List Int) (c:l.length≤80000000000) {z:Int} (a:0≤z) (b:z < 2^63):g40 (Za l) z=Xa (Za (l++nB z)):=by
 rw [ZBE,Zt2 l (by omega) z a b];rfl
structure Id.Small (i:Id):Prop where
 c0:0≤i.core
 c1:i.core < 2^40
 o0:0≤i.op
 o1:i.op < 2^40
 p0:0≤i.part
 p1:i.part < 2^40
def Zjg {i:Id} (h:Vx i=Xb):i.Small:=by
 obtain ⟨a,c,d,e,b,f⟩:=Zdx h;have:(2:Int)^40=1099511627776:=by decide
 exact ⟨a,by omega,by omega,by omega,b,by omega⟩
def Zg1:zid.Small:=⟨by decide,by decide,by decide,by decide,by decide,by decide⟩
def ZAF (l:List Int) (n:l.length≤80000000000) {i:Id} (b:i.Small):Zu7 (Za l) i.core i.op i.part=Xa (Za (l++idB i)):=by
 obtain ⟨c,o,p,q,s,t⟩:=b;obtain ⟨f,d⟩:=Zlj;have g:(2:Int)^63=9223372036854775808:=by decide
 have h:(2:Int)^40=1099511627776:=by decide
 have u:=VI i.core.toNat;have v:=VI i.op.toNat;have e:(((E0++[[I i.core]])++[[I i.op]])++[[I i.part]]) = [WS i.core,WS i.op,WS i.part]:=rfl;have j:P1 .add .i64 0 1=1:=by decide
 have k:P1 .add .i64 1 1=2:=by decide
 have m:P1 .add .i64 2 1=3:=by decide
 have a:(([WS i.core,WS i.op,WS i.part] : List (List AV)).length:Int)=3:=rfl;rw [Zvm,Zpz,e,d,a]
 rw [KH,P4 (by decide),Y2 (sh:=[.int .i64]) (cs:=WS i.core) (r:=i.core) _ (by decide) rfl rfl,Zi2 l (by omega) i.core c (by omega),Xd,j,
  KH,P4 (by decide),Y2 (sh:=[.int .i64]) (cs:=WS i.op) (r:=i.op) _ (by decide) rfl rfl,Zi2 _ (by rw [Xf,YG];omega) i.op (by omega) (by omega),Xd,k,
  KH,P4 (by decide),Y2 (sh:=[.int .i64]) (cs:=WS i.part) (r:=i.part) _ (by decide) rfl rfl,Zi2 _ (by rw [Xf,Xf,YG,YG];omega) i.part (by omega) (by omega),Xd,m,
  KH,P3 (by decide),Xd]
 simp [idB,Xl]
def Znb (l:List Int) (e:l.length≤80000000000) {i:Id} (a:i.Small):g43 (Za l) i.core i.op i.part=Xa (Za (l++idB i)):=by
 obtain ⟨b,f,g,h,j,k⟩:=a;have c:(2:Int)^63=9223372036854775808:=by decide
 have d:(2:Int)^40=1099511627776:=by decide
 have m:=VI i.core.toNat;have n:=VI i.op.toNat
 rw [ZtP,Zt2 l (by omega) i.core b (by omega),Xd,Zt2 _ (by rw [Xf,YG];omega) i.op (by omega) (by omega),Xd,
  Zt2 _ (by rw [Xf,Xf,YG,YG];omega) i.part (by omega) (by omega),Xd]
 simp [idB,Xl]
def ZJZ:∀ (k a v:Nat) (l:List Int),v < 2^64→v < 128^(k+1)→k < a→l.length+k≤100000000000→ZfE a (Za l) (v:Int)=Xa (Za (l++uv v)):=by
 have h:(2:Nat)^63=9223372036854775808:=by decide
 have i:(2:Nat)^64=18446744073709551616:=by decide
 have c:∀ (l:List Int) (z:Int),Za l++(E0++[[AV.val (.int .u8 z)]])=Za (l++[z]):=by intro l z;simp [Za,u8c]
 have b:∀ (f v:Nat) (l:List Int),v < 128→l.length≤100000000000→ZfE (f+1) (Za l) (v:Int)=Xa (Za (l++uv v)):=by
  intro f v l d g;have w:Xi .u8 (v:Int)=(v:Int):=by rw [ZeK];omega
  rw [ZiP,P3 (by simp only [ZK,ZN,ZL,ZJ,ZI,ZG,ZM,ZO,ZP,ZF,ZE,ZH,XE,XK,Xu,XN,Xj,XF,P5,decide_eq_false_iff_not,Xw,XO,Xd,Xg,false_iff,true_iff,iff_false,iff_true];omega),Zg (room1 (by rw [ZB];omega) (by simp)),w,c,Y6 (by omega),P4 d]
 intro k
 induction k with
 | zero =>
  intro a v l j e m g;obtain ⟨f,rfl⟩:∃ f,a=f+1:=⟨a-1,by omega⟩;exact b f v l (by simpa using e) (by omega)
 | succ k ih =>
  intro a v l j e m g;obtain ⟨f,rfl⟩:∃ f,a=f+1:=⟨a-1,by omega⟩;by_cases d:v < 128
  ·exact b f v l d (by omega)
  ·have n:v / 128 < 128^(k+1):=by
    rw [UJ] at e;exact UQ (by omega)
   have o:P1 .rem .u64 (v:Int) 128=((v % 128:Nat):Int):=by
    show (v:Int).tmod 128=_;rw [UT (by omega)];omega
   have p:P1 .add .u64 ((v % 128:Nat):Int) 128=((v % 128+128:Nat):Int):=by (show Xi .u64 _=_);rw [Jc (by omega) (by omega)];omega
   have q:Xi .u8 ((v % 128+128:Nat):Int)=((v % 128+128:Nat):Int):=by rw [ZeK];omega
   have r:P1 .quo .u64 (v:Int) 128=((v / 128:Nat):Int):=by
    show Xi .u64 ((v:Int).tdiv 128)=_;rw [Int.tdiv_eq_ediv_of_nonneg (by omega),Jc (by omega) (by omega)];omega
   rw [ZiP,P4 (by simp only [ZK,ZN,ZL,ZJ,ZI,ZG,ZM,ZO,ZP,ZF,ZE,ZH,XE,XK,Xu,XN,Xj,XF,P5,decide_eq_false_iff_not,Xw,XO,Xd,Xg,false_iff,true_iff,iff_false,iff_true];omega),Zg (by decide),Zg (room1 (by rw [ZB];omega) (by simp)),Zg (by decide),o,p,q,r,c,
    ih f (v / 128) _ (by omega) n (by omega) (by rw [Xf];simp;omega),Y6 (v:=v) (by omega),P3 d]
   simp [Xl]
def ZLo (l:List Int) (d:l.length≤80000000000) (z:Int):ZHO (Za l) z=Xa (Za (l++sgB z)):=by
 have f:=ZaS z;have c:(2:Int)^64=((2^64:Nat):Int):=by decide
 have a:(2:Nat)^64=18446744073709551616:=by decide
 have b:(128:Nat)^11=151115727451828646838272:=by decide
 have e:sgV z=(((sgV z).toNat:Nat):Int):=by omega
 have:=ZJZ 10 Zr (sgV z).toNat l (by omega) (by omega) (JW (by decide)) (by omega);rw [← e] at this;rw [Zwu,Zg (by decide)];unfold sgV at this;by_cases hz:z < 0
 ·rw [P4 (show (P0 .lss z 0)=Xb by simp only [CQ];exact hz)];rw [P4 hz] at this;refine this.trans ?_;unfold sgB sgV;rw [P4 hz]
 ·rw [P3 (show ¬ (P0 .lss z 0)=Xb by simp only [CQ];omega)];rw [P3 hz] at this;refine this.trans ?_;unfold sgB sgV;rw [P3 hz]
def ZeV (c:Call):List Int:=((Yu c).map sgB).flatten
def ZpM (z:Int):(sgB z).length≤11:=Zu2 _
def Zbb {a:Type} (c:a→List Int) (b:Nat):∀ (l:List a),(∀ x∈l,(c x).length≤b)→((l.map c).flatten).length≤b*l.length
 | [], _ => by simp
 | x :: l, h => by
  have e:=h x (by simp);have f:=Zbb c b l fun y d=>h y (by simp [d]);rw [Xn,XD,Xf,Xv,Nat.mul_add];omega
def ZgC (c:Call):(ZeV c).length≤132:=Zbb sgB 11 (Yu c) fun x _=>ZpM x
def ZKp (l:List Int) (f:l.length+132≤80000000000) (c:Call) (g:∀ z∈Yu c,Rng z):ZFd (Za l) c.kind c.slot c.dest c.core c.mask c.object c.bits c.level c.offset c.count c.index c.addr=Xa (Za (l++ZeV c)):=by
 refine (Zwa ..).trans ?_;show ZiQ Zr (Za l) (Zd (Yu c)) ((Yu c).length:Int) 0=_;refine VB (F:=fun k a i=>ZiQ k a (Zd (Yu c)) ((Yu c).length:Int) i) (l:=Yu c) sgB 11 80000000000 (show (Yu c).length < 2^63 by show 12 < 2^63;omega) (fun x _=>ZpM x) (fun k i d b h=>?_) (fun k i d b=>?_) l f
 ·refine (Zio ..).trans ?_;have e:=g _ (Xq b);rw [P4 (Z4 b)];refine (Z2 b _).trans ?_;rw [ZLc d h e.1 e.2,Xd,ZS b (show (Yu c).length < 2^63 by show 12 < 2^63;omega)]
 ·refine (Zio ..).trans ?_;rw [P3 (Z3 b)]
def ZKI (l:List Int) (e:l.length+132≤80000000000) (c:Call):ZGR (Za l) c.kind c.slot c.dest c.core c.mask c.object c.bits c.level c.offset c.count c.index c.addr=Xa (Za (l++ZeV c)):=by
 refine (Zw4 ..).trans ?_;show ZiD Zr (Za l) (Zd (Yu c)) 0=_;refine VB (F:=fun k a i=>ZiD k a (Zd (Yu c)) i) (l:=Yu c) sgB 11 80000000000 (show (Yu c).length < 2^63 by show 12 < 2^63;omega) (fun x _=>ZpM x) (fun k i b d f=>?_) (fun k i b d=>?_) l e
 ·refine (Zh2 ..).trans ?_;rw [ZT,P4 (Z4 d)];refine (Zg (by omega) _).trans ((Zg (by omega) _).trans ((Z2 d _).trans ?_));rw [ZLo b f,Xd,ZS d (show (Yu c).length < 2^63 by show 12 < 2^63;omega)]
 ·refine (Zh2 ..).trans ?_;rw [ZT,P3 (Z3 d)]
def Wd (n:Yc):(Yp n).length≤400:=by
 unfold Yp;split
 ·rename_i h
  have a:n.path.length≤8:=by
   simp only [ZD,Xj,P5] at h;exact h.1.2
  have b:=YP n.id;have c:=Zu2 n.path.length;have d:=Zbb idB 33 n.path fun x _=>YP x;have e:(Jv n.cap).length=10:=rfl;unfold Yq;rw [Xf,Xf,Xf];omega
 ·simp
def YA (n:Yc):List Int:=nB ((Yp n).length:Int)++Yp n
def K2 (n:Yc):(YA n).length≤411:=by
 have a:=Wd n;have b:=ZU ((Yp n).length:Int);unfold YA;rw [Xf];omega
def ZfD (a b:List Int):Za a++Za b=Za (a++b):=by simp [Za]
def ZEn (l:List Int) (a:l.length≤80000000000) (n:Yc) (b:n.path.length < 2^63):Zye (Za l) n.id.core n.id.op n.id.part (Ze n.path) n.cap.kind n.cap.base n.cap.bits n.cap.rights n.cap.width n.cap.level n.cap.device=Xa (Za (l++YA n)):=by
 have c:=Wd n;have d:=ZU ((Yp n).length:Int);rw [Zvs,ZLr n b,Xd];dsimp only;rw [ZB,s38 l a (by omega) (by omega),Xd,Zg (room1 (by rw [ZB,Xf];omega) (by rw [ZB];omega)),ZfD];unfold YA;rw [Xl]
def s49 (l:List Int) (a:l.length≤80000000000) (n:Yc) (b:n.path.length < 2^63):g49 (Za l) n.id.core n.id.op n.id.part (Ze n.path) n.cap.kind n.cap.base n.cap.bits n.cap.rights n.cap.width n.cap.level n.cap.device=Xa (Za (l++YA n)):=by
 have c:=Wd n;have d:=ZU ((Yp n).length:Int);rw [ZCc,ZDP n b,Xd];dsimp only;rw [ZB,s40 l a (by omega) (by omega),Xd,Zg (room1 (by rw [ZB,Xf];omega) (by rw [ZB];omega)),ZfD];unfold YA;rw [Xl]
def Wz (r:Req):List Int:=idB r.id++ZeV r.call++nB r.region++nB r.width++YA r.src
def ZaU (r:Req):(Wz r).length≤598:=by
 have a:=YP r.id;have b:=ZgC r.call;have c:=ZU r.region;have d:=ZU r.width;have e:=K2 r.src;unfold Wz;rw [Xf,Xf,Xf,Xf];omega
structure Req.Good (r:Req):Prop where
 id:r.id.Small
 call:∀ z∈Yu r.call,Rng z
 reg0:0≤r.region
 reg1:r.region < 2^63
 wid0:0≤r.width
 wid1:r.width < 2^63
 path:r.src.path.length < 2^63
def ZJd (l:List Int) (a:l.length+598≤80000000000) (r:Req) (h:r.Good):ZD0 (Za l) r.id.core r.id.op r.id.part r.call.kind r.call.slot r.call.dest r.call.core r.call.mask r.call.object r.call.bits r.call.level r.call.offset r.call.count r.call.index r.call.addr r.region r.width r.src.id.core r.src.id.op r.src.id.part (Ze r.src.path) r.src.cap.kind r.src.cap.base r.src.cap.bits r.src.cap.rights r.src.cap.width r.src.cap.level r.src.cap.device=Xa (Za (l++Wz r)):=by
 have b:=YP r.id;have c:=ZgC r.call;have d:=ZU r.region;have e:=ZU r.width;rw [ZxI,ZAF l (by omega) h.id,Xd,ZKp _ (by rw [Xf];omega) r.call h.call,Xd,s38 _ (by rw [Xf,Xf];omega) h.reg0 h.reg1,Xd,s38 _ (by rw [Xf,Xf,Xf];omega) h.wid0 h.wid1,Xd,ZEn _ (by rw [Xf,Xf,Xf,Xf];omega) r.src h.path,Xd];unfold Wz;simp only [Xl]
def s41 (l:List Int) (a:l.length+598≤80000000000) (r:Req) (h:r.Good):g41 (Za l) r.id.core r.id.op r.id.part r.call.kind r.call.slot r.call.dest r.call.core r.call.mask r.call.object r.call.bits r.call.level r.call.offset r.call.count r.call.index r.call.addr r.region r.width r.src.id.core r.src.id.op r.src.id.part (Ze r.src.path) r.src.cap.kind r.src.cap.base r.src.cap.bits r.src.cap.rights r.src.cap.width r.src.cap.level r.src.cap.device=Xa (Za (l++Wz r)):=by
 have b:=YP r.id;have c:=ZgC r.call;have d:=ZU r.region;have e:=ZU r.width;rw [ZAZ,Znb l (by omega) h.id,Xd,ZKI _ (by rw [Xf];omega) r.call,Xd,s40 _ (by rw [Xf,Xf];omega) h.reg0 h.reg1,Xd,s40 _ (by rw [Xf,Xf,Xf];omega) h.wid0 h.wid1,Xd,s49 _ (by rw [Xf,Xf,Xf,Xf];omega) r.src h.path,Xd];unfold Wz;simp only [Xl]
def bB (b:Bool):List Int:=if b=Xb then nB 1 else nB 0
def ZIN (l:List Int) (a:l.length≤80000000000) (b:Bool):ZDp (Za l) b=Xa (Za (l++bB b)):=by
 rw [ZwA]
 cases b with
 | true => rw [P4 rfl, s38 l a (by decide) (by decide)]; rfl
 | false => rw [P3 UE, s38 l a (by decide) (by decide)]; rfl
def s42 (l:List Int) (a:l.length≤80000000000) (b:Bool):g42 (Za l) b=Xa (Za (l++bB b)):=by
 rw [ZzP]
 cases b with
 | true => rw [P4 rfl, s40 l a (by decide) (by decide)]; rfl
 | false => rw [P3 UE, s40 l a (by decide) (by decide)]; rfl
def Wk (m:ZeF):List Int:=nB m.region++nB m.to
def Zde (m:ZeF):(Wk m).length≤22:=by
 have a:=ZU m.region;have b:=ZU m.to;unfold Wk;rw [Xf];omega
def Zs {a:Type} (c:a→List Int) (xs:List a):List Int:=nB (xs.length:Int)++(xs.map c).flatten
def ZKH (l:List Int) (xs:List Yc) (f:l.length+11+411*xs.length≤79999999978) (d:xs.length < 2^63) (h:∀ x∈xs,x.path.length < 2^63):ZHq (Za l) (xs.map YM)=Xa (Za (l++Zs YA xs)):=by
 have g:=ZU (xs.length:Int);refine (Zvl ..).trans ?_;rw [Xk,s38 l (by omega) (by omega) (by omega),Xd];unfold Zs;rw [← Xl];refine VB (F:=fun k a i=>Zl0 k a (xs.map YM) (xs.length:Int) i) (l:=xs) YA 411 79999999978 d (fun x _=>K2 x) (fun k i c b j=>?_) (fun k i c b=>?_) _ (by rw [Xf];omega)
 ·refine (Zie ..).trans ?_;have e:=h _ (Xq b);rw [P4 (Z4 b)];refine (Y8 b _).trans ?_;simp only [Ziv,d2,d4,d8,P2,d6,df,dg,dh,di,dj,dk,dl];rw [ZEn c (by omega) _ e,Xd,ZS b d]
 ·refine (Zie ..).trans ?_;rw [P3 (Z3 b)]
def ZIC (l:List Int) (xs:List Id) (f:l.length+11+33*xs.length≤79999999978) (d:xs.length < 2^63) (h:∀ x∈xs,x.Small):ZDQ (Za l) (Ze xs)=Xa (Za (l++Zs idB xs)):=by
 have g:=ZU (xs.length:Int);refine (ZwI ..).trans ?_;rw [ZX,s38 l (by omega) (by omega) (by omega),Xd];unfold Zs;rw [← Xl];refine VB (F:=fun k a i=>Znr k a (Ze xs) (xs.length:Int) i) (l:=xs) idB 33 79999999978 d (fun x _=>YP x) (fun k i c b j=>?_) (fun k i c b=>?_) _ (by rw [Xf];omega)
 ·refine (Zjo ..).trans ?_;have e:=h _ (Xq b);rw [P4 (Z4 b)];refine (VC b _).trans ?_;dsimp only;rw [ZAF c (by omega) e,Xd,ZS b d]
 ·refine (Zjo ..).trans ?_;rw [P3 (Z3 b)]
def ZHT (l:List Int) (xs:List Int) (f:l.length+11+11*xs.length≤79999999978) (d:xs.length < 2^63) (h:∀ x∈xs,0≤x∧x < 2^63):Zzj (Za l) (Zd xs)=Xa (Za (l++Zs nB xs)):=by
 have g:=ZU (xs.length:Int);refine (Zwq ..).trans ?_;rw [ZT,s38 l (by omega) (by omega) (by omega),Xd];unfold Zs;rw [← Xl];refine VB (F:=fun k a i=>Zmo k a (Zd xs) (xs.length:Int) i) (l:=xs) nB 11 79999999978 d (fun x _=>ZU x) (fun k i c b j=>?_) (fun k i c b=>?_) _ (by rw [Xf];omega)
 ·refine (Zia ..).trans ?_;have e:=h _ (Xq b);rw [P4 (Z4 b)];refine (Z2 b _).trans ?_;rw [s38 c (by omega) e.1 e.2,Xd,ZS b d]
 ·refine (Zia ..).trans ?_;rw [P3 (Z3 b)]
def ZK5 (l:List Int) (xs:List ZeF) (f:l.length+11+22*xs.length≤79999999978) (e:xs.length < 2^63) (h:∀ x∈xs,(0≤x.region∧x.region < 2^63)∧0≤x.to∧x.to < 2^63):ZHB (Za l) (xs.map YE)=Xa (Za (l++Zs Wk xs)):=by
 have g:=ZU (xs.length:Int);refine (Zu6 ..).trans ?_;rw [Xk,s38 l (by omega) (by omega) (by omega),Xd];unfold Zs;rw [← Xl];refine VB (F:=fun k a i=>Zmj k a (xs.map YE) (xs.length:Int) i) (l:=xs) Wk 22 79999999978 e (fun x _=>Zde x) (fun k i c b j=>?_) (fun k i c b=>?_) _ (by rw [Xf];omega)
 ·refine (Zjd ..).trans ?_;have d:=h _ (Xq b);rw [P4 (Z4 b)];refine (Yt b _).trans ?_;dsimp only;have m:=ZU xs[i].region;rw [s38 c (by omega) d.1.1 d.1.2,Xd,s38 _ (by rw [Xf];omega) d.2.1 d.2.2,Xd,ZS b e,Xl];rfl
 ·refine (Zjd ..).trans ?_;rw [P3 (Z3 b)]
def s44 (l:List Int) (xs:List Id) (f:l.length+11+33*xs.length≤79999999978) (d:xs.length < 2^63) (h:∀ x∈xs,x.Small):g44 (Za l) (Ze xs)=Xa (Za (l++Zs idB xs)):=by
 have g:=ZU (xs.length:Int);refine (ZBw ..).trans ?_;rw [ZX,s40 l (by omega) (by omega) (by omega),Xd];unfold Zs;rw [← Xl];refine VB (F:=fun k a i=>Ztw k a (Ze xs) i) (l:=xs) idB 33 79999999978 d (fun x _=>YP x) (fun k i c b j=>?_) (fun k i c b=>?_) _ (by rw [Xf];omega)
 ·refine (ZmR ..).trans ?_;have e:=h _ (Xq b);rw [ZX,P4 (Z4 b)];refine (VC b _).trans ?_;dsimp only;rw [Znb c (by omega) e,Xd,ZS b d]
 ·refine (ZmR ..).trans ?_;rw [ZX,P3 (Z3 b)]
def s45 (l:List Int) (xs:List Int) (f:l.length+11+11*xs.length≤79999999978) (d:xs.length < 2^63) (h:∀ x∈xs,0≤x∧x < 2^63):g45 (Za l) (Zd xs)=Xa (Za (l++Zs nB xs)):=by
 have g:=ZU (xs.length:Int);refine (ZBc ..).trans ?_;rw [ZT,s40 l (by omega) (by omega) (by omega),Xd];unfold Zs;rw [← Xl];refine VB (F:=fun k a i=>Ztg k a (Zd xs) i) (l:=xs) nB 11 79999999978 d (fun x _=>ZU x) (fun k i c b j=>?_) (fun k i c b=>?_) _ (by rw [Xf];omega)
 ·refine (Zmu ..).trans ?_;have e:=h _ (Xq b);rw [ZT,P4 (Z4 b)];refine (Z2 b _).trans ?_;rw [s40 c (by omega) e.1 e.2,Xd,ZS b d]
 ·refine (Zmu ..).trans ?_;rw [ZT,P3 (Z3 b)]
def Ya {o γ:Type} {F:Nat→List (List AV)→Int→Option γ} {l:List o} (c:o→List Int) (G:List Int→Option γ) (b lim:Nat) (p:l.length < 2^63) (q:∀ x∈l,(c x).length≤b)
  (g:∀ (k i:Nat) (a:List Int) (m:i < l.length),a.length≤lim→F (k+1) (Za a) (i:Int)=F k (Za (a++c l[i])) ((i+1:Nat):Int))
  (e:∀ (k i:Nat) (a:List Int),l.length≤i→a.length≤lim→F (k+1) (Za a) (i:Int)=G a) (a:List Int) (r:a.length+b*l.length≤lim) :
  F Zr (Za a) 0=G (a++(l.map c).flatten):=by
 have n:∀ (j i d:Nat) (a:List Int),l.length≤i+j→j < d→a.length+b*(l.length-i)≤lim→F d (Za a) (i:Int)=G (a++((l.drop i).map c).flatten):=by
  intro j
  induction j with
  | zero =>
   intro i d a h s t;obtain ⟨f,rfl⟩:∃ f,d=f+1:=⟨d-1,by omega⟩;rw [e f i a (by omega) (by omega),Up (by omega)];simp
  | succ j ih =>
   intro i d a h s t;obtain ⟨f,rfl⟩:∃ f,d=f+1:=⟨d-1,by omega⟩;by_cases m:i < l.length
   ·have u:=q _ (Xq m)
    have v:b*(l.length-i)=b+b*(l.length-(i+1)):=by
     rw [show l.length-i=(l.length-(i+1))+1 by omega,Nat.mul_add,UV,Nat.add_comm]
    rw [g f i a m (by omega),ih (i+1) f (a++c l[i]) (by omega) (by omega) (by rw [Xf];omega),UF m,Xn,XD,Xl]
   ·rw [e f i a (by omega) (by omega),Up (by omega)];simp
 have:=n l.length 0 Zr a (by omega) (by have:=Yi p;omega) (by simpa using r);simpa using this
def YO (s:YN):List Int:=YA s.node++nB s.op++idB s.lock
def YJ (m:Zaq):List Int:=nB m.region++idB m.op
def WF (a:Ans):List Int:=nB a.op++nB a.err
def V8 (e:ZY):List Int:=nB e.core++nB e.slot++YA e.node
def Zc9 (s:YN):(YO s).length≤455:=by
 have a:=K2 s.node;have b:=ZU s.op;have c:=YP s.lock;unfold YO;rw [Xf,Xf];omega
def Zdd (m:Zaq):(YJ m).length≤44:=by
 have a:=ZU m.region;have b:=YP m.op;unfold YJ;rw [Xf];omega
def ZgV (a:Ans):(WF a).length≤22:=by
 have b:=ZU a.op;have c:=ZU a.err;unfold WF;rw [Xf];omega
def Zgu (e:ZY):(V8 e).length≤433:=by
 have a:=K2 e.node;have b:=ZU e.core;have c:=ZU e.slot;unfold V8;rw [Xf,Xf];omega
def N63 (z:Int):Prop:=0≤z∧z < 2^63
structure JD.Good (s:JD):Prop where
 slots:s.slots.length≤2097152
 pending:s.pending.length≤2097152
 marks:s.marks.length≤2097152
 answers:s.answers.length≤2097152
 entries:s.entries.length≤2097152
 commits:s.commits.length≤2097152
 slot:∀ x∈s.slots,x.node.path.length < 2^63∧N63 x.op∧x.lock.Small
 req:∀ x∈s.pending,x.Good
 mark:∀ x∈s.marks,N63 x.region∧x.op.Small
 ans:∀ x∈s.answers,N63 x.op∧N63 x.err
 entry:∀ x∈s.entries,N63 x.core∧N63 x.slot∧x.node.path.length < 2^63
 commit:∀ x∈s.commits,x.Small
def YS (s:JD):List Int:=Zs YO s.slots++(Zs Wz s.pending++(Zs YJ s.marks++(Zs WF s.answers++(Zs V8 s.entries++Zs idB s.commits))))
def Jg {a:Type} (c:a→List Int) (b n:Nat) (l:List a) (h:∀ x∈l,(c x).length≤b) (d:l.length≤n):(Zs c l).length≤11+b*n:=by
 have e:=ZU (l.length:Int);have f:=Zbb c b l h;have g:b*l.length≤b*n:=U3 b d;unfold Zs;rw [Xf];omega
def V4 (s:JD) (h:s.Good):(YS s).length≤3400000000:=by
 have a:=Jg YO 455 _ s.slots (fun x _=>Zc9 x) h.slots;have b:=Jg Wz 598 _ s.pending (fun x _=>ZaU x) h.pending;have c:=Jg YJ 44 _ s.marks (fun x _=>Zdd x) h.marks;have d:=Jg WF 22 _ s.answers (fun x _=>ZgV x) h.answers;have e:=Jg V8 433 _ s.entries (fun x _=>Zgu x) h.entries;have f:=Jg idB 33 _ s.commits (fun x _=>YP x) h.commits;unfold YS;rw [Xf,Xf,Xf,Xf,Xf];omega
def ZFQ (l:List Int) (o:l.length≤60000000000) (s:JD) (h:s.Good):ZAn (Za l) (s.slots.map Zv) (s.pending.map Jq) (s.marks.map Zz) (s.answers.map JB) (s.entries.map Zi) (Ze s.commits)=Xa (Za (l++YS s)):=by
 have L0:∀ b:List Int,b.length≤70000000000→Zjf Zr (Za b) (s.slots.map Zv) (s.pending.map Jq) (s.marks.map Zz) (s.answers.map JB) (s.entries.map Zi) (Ze s.commits) (s.entries.map Zi) (s.entries.length:Int) 0=Xa (Za ((b++(s.entries.map V8).flatten)++(Zs idB s.commits))):=by
  intro b e;have g:=h.entries;have f:s.entries.length < 2^63:=by omega
  refine Ya (F:=fun k a i=>Zjf k a (s.slots.map Zv) (s.pending.map Jq) (s.marks.map Zz) (s.answers.map JB) (s.entries.map Zi) (Ze s.commits) (s.entries.map Zi) (s.entries.length:Int) i) (l:=s.entries) V8 (fun b=>Xa (Za (b++(Zs idB s.commits)))) 433 71900000000 f (fun x _=>Zgu x) (fun k i b c j=>?_) (fun k i b c j=>?_) b (by omega)
  ·refine (Zik ..).trans ?_;have d:=h.entry _ (Xq c);have m:=ZU s.entries[i].core;have n:=ZU s.entries[i].slot;rw [P4 (Z4 c)];refine (Zu c _).trans ?_
   try simp only [Zu c,Yx,d2,d4,d8,P2,d6,df,dg,dh,di,dj,dk,dl]
   rw [s38 b (by omega) d.1.1 d.1.2,Xd,s38 _ (by rw [Xf];omega) d.2.1.1 d.2.1.2,Xd,ZEn _ (by rw [Xf,Xf];omega) _ d.2.2,Xd,ZS c f]
   try simp only [V8,Xl]
  ·refine (Zik ..).trans ?_;rw [P3 (Z3 c)];rw [ZIC b s.commits (by have:=h.commits;omega) (by have:=h.commits;omega) h.commit];rfl
 have L1:∀ b:List Int,b.length≤68000000000→Zh3 Zr (Za b) (s.slots.map Zv) (s.pending.map Jq) (s.marks.map Zz) (s.answers.map JB) (s.entries.map Zi) (Ze s.commits) (s.answers.map JB) (s.answers.length:Int) 0=Xa (Za ((b++(s.answers.map WF).flatten)++(Zs V8 s.entries++(Zs idB s.commits)))):=by
  intro b e;have g:=h.answers;have f:s.answers.length < 2^63:=by omega
  refine Ya (F:=fun k a i=>Zh3 k a (s.slots.map Zv) (s.pending.map Jq) (s.marks.map Zz) (s.answers.map JB) (s.entries.map Zi) (Ze s.commits) (s.answers.map JB) (s.answers.length:Int) i) (l:=s.answers) WF (fun b=>Xa (Za (b++(Zs V8 s.entries++(Zs idB s.commits))))) 22 69900000000 f (fun x _=>ZgV x) (fun k i b c j=>?_) (fun k i b c j=>?_) b (by omega)
  ·refine (Zib ..).trans ?_;have d:=h.ans _ (Xq c);have m:=ZU s.answers[i].op;rw [P4 (Z4 c)];refine (J7 c _).trans ?_
   try simp only [J7 c,d2,d4,d8,P2,d6,df,dg,dh,di,dj,dk,dl]
   rw [s38 b (by omega) d.1.1 d.1.2,Xd,s38 _ (by rw [Xf];omega) d.2.1 d.2.2,Xd,ZS c f]
   try simp only [WF,Xl]
  ·refine (Zib ..).trans ?_;rw [P3 (Z3 c)];have m:=ZU (s.entries.length:Int);have n:=h.entries;rw [Xk,s38 b (by omega) (by omega) (by omega),Xd,L0 _ (by rw [Xf];omega)];simp only [Zs,Xl]
 have L2:∀ b:List Int,b.length≤66000000000→Zim Zr (Za b) (s.slots.map Zv) (s.pending.map Jq) (s.marks.map Zz) (s.answers.map JB) (s.entries.map Zi) (Ze s.commits) (s.marks.map Zz) (s.marks.length:Int) 0=Xa (Za ((b++(s.marks.map YJ).flatten)++(Zs WF s.answers++(Zs V8 s.entries++(Zs idB s.commits))))):=by
  intro b e;have g:=h.marks;have f:s.marks.length < 2^63:=by omega
  refine Ya (F:=fun k a i=>Zim k a (s.slots.map Zv) (s.pending.map Jq) (s.marks.map Zz) (s.answers.map JB) (s.entries.map Zi) (Ze s.commits) (s.marks.map Zz) (s.marks.length:Int) i) (l:=s.marks) YJ (fun b=>Xa (Za (b++(Zs WF s.answers++(Zs V8 s.entries++(Zs idB s.commits)))))) 44 67900000000 f (fun x _=>Zdd x) (fun k i b c j=>?_) (fun k i b c j=>?_) b (by omega)
  ·refine (ZhS ..).trans ?_;have d:=h.mark _ (Xq c);have m:=ZU s.marks[i].region;rw [P4 (Z4 c)];refine (JN c _).trans ?_
   try simp only [JN c,d2,d4,d8,P2,d6,df,dg,dh,di,dj,dk,dl]
   rw [s38 b (by omega) d.1.1 d.1.2,Xd,ZAF _ (by rw [Xf];omega) d.2,Xd,ZS c f]
   try simp only [YJ,Xl]
  ·refine (ZhS ..).trans ?_;rw [P3 (Z3 c)];have m:=ZU (s.answers.length:Int);have n:=h.answers;rw [Xk,s38 b (by omega) (by omega) (by omega),Xd,L1 _ (by rw [Xf];omega)];simp only [Zs,Xl]
 have L3:∀ b:List Int,b.length≤64000000000→Zja Zr (Za b) (s.slots.map Zv) (s.pending.map Jq) (s.marks.map Zz) (s.answers.map JB) (s.entries.map Zi) (Ze s.commits) (s.pending.map Jq) (s.pending.length:Int) 0=Xa (Za ((b++(s.pending.map Wz).flatten)++(Zs YJ s.marks++(Zs WF s.answers++(Zs V8 s.entries++(Zs idB s.commits)))))):=by
  intro b e;have g:=h.pending;have f:s.pending.length < 2^63:=by omega
  refine Ya (F:=fun k a i=>Zja k a (s.slots.map Zv) (s.pending.map Jq) (s.marks.map Zz) (s.answers.map JB) (s.entries.map Zi) (Ze s.commits) (s.pending.map Jq) (s.pending.length:Int) i) (l:=s.pending) Wz (fun b=>Xa (Za (b++(Zs YJ s.marks++(Zs WF s.answers++(Zs V8 s.entries++(Zs idB s.commits))))))) 598 65900000000 f (fun x _=>ZaU x) (fun k i b c j=>?_) (fun k i b c j=>?_) b (by omega)
  ·refine (Zi8 ..).trans ?_;have d:=h.req _ (Xq c)
   skip
   rw [P4 (Z4 c)];refine (JZ c _).trans ?_
   try simp only [JZ c,ZrE,d2,d4,d8,P2,d6,df,dg,dh,di,dj,dk,dl]
   rw [ZJd b (by omega) _ d,Xd,ZS c f]
   try simp only [Xl]
  ·refine (Zi8 ..).trans ?_;rw [P3 (Z3 c)];have m:=ZU (s.marks.length:Int);have n:=h.marks;rw [Xk,s38 b (by omega) (by omega) (by omega),Xd,L2 _ (by rw [Xf];omega)];simp only [Zs,Xl]
 have L4:∀ b:List Int,b.length≤62000000000→ZiX Zr (Za b) (s.slots.map Zv) (s.pending.map Jq) (s.marks.map Zz) (s.answers.map JB) (s.entries.map Zi) (Ze s.commits) (s.slots.map Zv) (s.slots.length:Int) 0=Xa (Za ((b++(s.slots.map YO).flatten)++(Zs Wz s.pending++(Zs YJ s.marks++(Zs WF s.answers++(Zs V8 s.entries++(Zs idB s.commits))))))):=by
  intro b e;have g:=h.slots;have f:s.slots.length < 2^63:=by omega
  refine Ya (F:=fun k a i=>ZiX k a (s.slots.map Zv) (s.pending.map Jq) (s.marks.map Zz) (s.answers.map JB) (s.entries.map Zi) (Ze s.commits) (s.slots.map Zv) (s.slots.length:Int) i) (l:=s.slots) YO (fun b=>Xa (Za (b++(Zs Wz s.pending++(Zs YJ s.marks++(Zs WF s.answers++(Zs V8 s.entries++(Zs idB s.commits)))))))) 455 63900000000 f (fun x _=>Zc9 x) (fun k i b c j=>?_) (fun k i b c j=>?_) b (by omega)
  ·refine (Zh1 ..).trans ?_;have d:=h.slot _ (Xq c);have m:=K2 s.slots[i].node;have n:=ZU s.slots[i].op;rw [P4 (Z4 c)];refine (JQ c _).trans ?_
   try simp only [JQ c,Ze7,d2,d4,d8,P2,d6,df,dg,dh,di,dj,dk,dl]
   rw [ZEn b (by omega) _ d.1,Xd,s38 _ (by rw [Xf];omega) d.2.1.1 d.2.1.2,Xd,ZAF _ (by rw [Xf,Xf];omega) d.2.2,Xd,ZS c f]
   try simp only [YO,Xl]
  ·refine (Zh1 ..).trans ?_;rw [P3 (Z3 c)];have m:=ZU (s.pending.length:Int);have n:=h.pending;rw [Xk,s38 b (by omega) (by omega) (by omega),Xd,L3 _ (by rw [Xf];omega)];simp only [Zs,Xl]
 have g:=h.slots;have m:=ZU (s.slots.length:Int);refine (Zxl ..).trans ?_;rw [Xk,s38 l (by omega) (by omega) (by omega),Xd,L4 _ (by rw [Xf];omega)];simp only [YS,Zs,Xl]
def s47 (l:List Int) (o:l.length≤60000000000) (s:JD) (h:s.Good):g47 (Za l) (s.slots.map Zv) (s.pending.map Jq) (s.marks.map Zz) (s.answers.map JB) (s.entries.map Zi) (Ze s.commits)=Xa (Za (l++YS s)):=by
 have L0:∀ b:List Int,b.length≤70000000000→Zqg Zr (Za b) (s.slots.map Zv) (s.pending.map Jq) (s.marks.map Zz) (s.answers.map JB) (s.entries.map Zi) (Ze s.commits) 0=Xa (Za ((b++(s.entries.map V8).flatten)++(Zs idB s.commits))):=by
  intro b e;have g:=h.entries;have f:s.entries.length < 2^63:=by omega
  refine Ya (F:=fun k a i=>Zqg k a (s.slots.map Zv) (s.pending.map Jq) (s.marks.map Zz) (s.answers.map JB) (s.entries.map Zi) (Ze s.commits) i) (l:=s.entries) V8 (fun b=>Xa (Za (b++(Zs idB s.commits)))) 433 71900000000 f (fun x _=>Zgu x) (fun k i b c j=>?_) (fun k i b c j=>?_) b (by omega)
  ·refine (ZmD ..).trans ?_;have d:=h.entry _ (Xq c);have m:=ZU s.entries[i].core;have n:=ZU s.entries[i].slot;rw [Xk,P4 (Z4 c)];refine (Zu c _).trans ?_
   try simp only [Zu c,Yx,d2,d4,d8,P2,d6,df,dg,dh,di,dj,dk,dl]
   rw [s40 b (by omega) d.1.1 d.1.2,Xd,s40 _ (by rw [Xf];omega) d.2.1.1 d.2.1.2,Xd,s49 _ (by rw [Xf,Xf];omega) _ d.2.2,Xd,ZS c f]
   try simp only [V8,Xl]
  ·refine (ZmD ..).trans ?_;rw [Xk,P3 (Z3 c)];rw [s44 b s.commits (by have:=h.commits;omega) (by have:=h.commits;omega) h.commit];rfl
 have L1:∀ b:List Int,b.length≤68000000000→Zqf Zr (Za b) (s.slots.map Zv) (s.pending.map Jq) (s.marks.map Zz) (s.answers.map JB) (s.entries.map Zi) (Ze s.commits) 0=Xa (Za ((b++(s.answers.map WF).flatten)++(Zs V8 s.entries++(Zs idB s.commits)))):=by
  intro b e;have g:=h.answers;have f:s.answers.length < 2^63:=by omega
  refine Ya (F:=fun k a i=>Zqf k a (s.slots.map Zv) (s.pending.map Jq) (s.marks.map Zz) (s.answers.map JB) (s.entries.map Zi) (Ze s.commits) i) (l:=s.answers) WF (fun b=>Xa (Za (b++(Zs V8 s.entries++(Zs idB s.commits))))) 22 69900000000 f (fun x _=>ZgV x) (fun k i b c j=>?_) (fun k i b c j=>?_) b (by omega)
  ·refine (Zna ..).trans ?_;have d:=h.ans _ (Xq c);have m:=ZU s.answers[i].op;rw [Xk,P4 (Z4 c)];refine (J7 c _).trans ?_
   try simp only [J7 c,d2,d4,d8,P2,d6,df,dg,dh,di,dj,dk,dl]
   rw [s40 b (by omega) d.1.1 d.1.2,Xd,s40 _ (by rw [Xf];omega) d.2.1 d.2.2,Xd,ZS c f]
   try simp only [WF,Xl]
  ·refine (Zna ..).trans ?_;rw [Xk,P3 (Z3 c)];have m:=ZU (s.entries.length:Int);have n:=h.entries;rw [Xk,s40 b (by omega) (by omega) (by omega),Xd,L0 _ (by rw [Xf];omega)];simp only [Zs,Xl]
 have L2:∀ b:List Int,b.length≤66000000000→ZqB Zr (Za b) (s.slots.map Zv) (s.pending.map Jq) (s.marks.map Zz) (s.answers.map JB) (s.entries.map Zi) (Ze s.commits) 0=Xa (Za ((b++(s.marks.map YJ).flatten)++(Zs WF s.answers++(Zs V8 s.entries++(Zs idB s.commits))))):=by
  intro b e;have g:=h.marks;have f:s.marks.length < 2^63:=by omega
  refine Ya (F:=fun k a i=>ZqB k a (s.slots.map Zv) (s.pending.map Jq) (s.marks.map Zz) (s.answers.map JB) (s.entries.map Zi) (Ze s.commits) i) (l:=s.marks) YJ (fun b=>Xa (Za (b++(Zs WF s.answers++(Zs V8 s.entries++(Zs idB s.commits)))))) 44 67900000000 f (fun x _=>Zdd x) (fun k i b c j=>?_) (fun k i b c j=>?_) b (by omega)
  ·refine (ZmE ..).trans ?_;have d:=h.mark _ (Xq c);have m:=ZU s.marks[i].region;rw [Xk,P4 (Z4 c)];refine (JN c _).trans ?_
   try simp only [JN c,d2,d4,d8,P2,d6,df,dg,dh,di,dj,dk,dl]
   rw [s40 b (by omega) d.1.1 d.1.2,Xd,Znb _ (by rw [Xf];omega) d.2,Xd,ZS c f]
   try simp only [YJ,Xl]
  ·refine (ZmE ..).trans ?_;rw [Xk,P3 (Z3 c)];have m:=ZU (s.answers.length:Int);have n:=h.answers;rw [Xk,s40 b (by omega) (by omega) (by omega),Xd,L1 _ (by rw [Xf];omega)];simp only [Zs,Xl]
 have L3:∀ b:List Int,b.length≤64000000000→Zpl Zr (Za b) (s.slots.map Zv) (s.pending.map Jq) (s.marks.map Zz) (s.answers.map JB) (s.entries.map Zi) (Ze s.commits) 0=Xa (Za ((b++(s.pending.map Wz).flatten)++(Zs YJ s.marks++(Zs WF s.answers++(Zs V8 s.entries++(Zs idB s.commits)))))):=by
  intro b e;have g:=h.pending;have f:s.pending.length < 2^63:=by omega
  refine Ya (F:=fun k a i=>Zpl k a (s.slots.map Zv) (s.pending.map Jq) (s.marks.map Zz) (s.answers.map JB) (s.entries.map Zi) (Ze s.commits) i) (l:=s.pending) Wz (fun b=>Xa (Za (b++(Zs YJ s.marks++(Zs WF s.answers++(Zs V8 s.entries++(Zs idB s.commits))))))) 598 65900000000 f (fun x _=>ZaU x) (fun k i b c j=>?_) (fun k i b c j=>?_) b (by omega)
  ·refine (ZlF ..).trans ?_;have d:=h.req _ (Xq c)
   skip
   rw [Xk,P4 (Z4 c)];refine (JZ c _).trans ?_
   try simp only [JZ c,ZrE,d2,d4,d8,P2,d6,df,dg,dh,di,dj,dk,dl]
   rw [s41 b (by omega) _ d,Xd,ZS c f]
   try simp only [Xl]
  ·refine (ZlF ..).trans ?_;rw [Xk,P3 (Z3 c)];have m:=ZU (s.marks.length:Int);have n:=h.marks;rw [Xk,s40 b (by omega) (by omega) (by omega),Xd,L2 _ (by rw [Xf];omega)];simp only [Zs,Xl]
 have L4:∀ b:List Int,b.length≤62000000000→ZoX Zr (Za b) (s.slots.map Zv) (s.pending.map Jq) (s.marks.map Zz) (s.answers.map JB) (s.entries.map Zi) (Ze s.commits) 0=Xa (Za ((b++(s.slots.map YO).flatten)++(Zs Wz s.pending++(Zs YJ s.marks++(Zs WF s.answers++(Zs V8 s.entries++(Zs idB s.commits))))))):=by
  intro b e;have g:=h.slots;have f:s.slots.length < 2^63:=by omega
  refine Ya (F:=fun k a i=>ZoX k a (s.slots.map Zv) (s.pending.map Jq) (s.marks.map Zz) (s.answers.map JB) (s.entries.map Zi) (Ze s.commits) i) (l:=s.slots) YO (fun b=>Xa (Za (b++(Zs Wz s.pending++(Zs YJ s.marks++(Zs WF s.answers++(Zs V8 s.entries++(Zs idB s.commits)))))))) 455 63900000000 f (fun x _=>Zc9 x) (fun k i b c j=>?_) (fun k i b c j=>?_) b (by omega)
  ·refine (Znt ..).trans ?_;have d:=h.slot _ (Xq c);have m:=K2 s.slots[i].node;have n:=ZU s.slots[i].op;rw [Xk,P4 (Z4 c)];refine (JQ c _).trans ?_
   try simp only [JQ c,Ze7,d2,d4,d8,P2,d6,df,dg,dh,di,dj,dk,dl]
   rw [s49 b (by omega) _ d.1,Xd,s40 _ (by rw [Xf];omega) d.2.1.1 d.2.1.2,Xd,Znb _ (by rw [Xf,Xf];omega) d.2.2,Xd,ZS c f]
   try simp only [YO,Xl]
  ·refine (Znt ..).trans ?_;rw [Xk,P3 (Z3 c)];have m:=ZU (s.pending.length:Int);have n:=h.pending;rw [Xk,s40 b (by omega) (by omega) (by omega),Xd,L3 _ (by rw [Xf];omega)];simp only [Zs,Xl]
 have g:=h.slots;have m:=ZU (s.slots.length:Int);refine (ZyW ..).trans ?_;rw [Xk,s40 l (by omega) (by omega) (by omega),Xd,L4 _ (by rw [Xf];omega)];simp only [YS,Zs,Xl]
structure Vu.Good (v:Vu):Prop where
 num:N63 v.number
 members:v.members.length≤2097152
 owners:v.owners.length≤2097152
 member:∀ x∈v.members,0≤x∧x < 2^63
 owner:∀ x∈v.owners,0≤x∧x < 2^63
def Wn (v:Vu):List Int:=nB v.number++(Zs nB v.members++Zs nB v.owners)
def VD (v:Vu) (h:v.Good):(Wn v).length≤50000000:=by
 have a:=ZU v.number;have b:=Jg nB 11 _ v.members (fun x _=>ZU x) h.members;have c:=Jg nB 11 _ v.owners (fun x _=>ZU x) h.owners;unfold Wn;rw [Xf,Xf];omega
def ZFp (l:List Int) (a:l.length≤70000000000) (v:Vu) (h:v.Good):ZBY (Za l) v.number (Zd v.members) (Zd v.owners)=Xa (Za (l++Wn v)):=by
 have b:=ZU v.number;have c:=Jg nB 11 _ v.members (fun x _=>ZU x) h.members;have d:=h.members;have e:=h.owners;rw [ZwC,s38 l (by omega) h.num.1 h.num.2,Xd,ZHT _ _ (by rw [Xf];omega) (by omega) h.member,Xd,ZHT _ _ (by rw [Xf,Xf];omega) (by omega) h.owner,Xd];simp only [Wn,Xl]
def s48 (l:List Int) (a:l.length≤70000000000) (v:Vu) (h:v.Good):g48 (Za l) v.number (Zd v.members) (Zd v.owners)=Xa (Za (l++Wn v)):=by
 have b:=ZU v.number;have c:=Jg nB 11 _ v.members (fun x _=>ZU x) h.members;have d:=h.members;have e:=h.owners;rw [ZAo,s40 l (by omega) h.num.1 h.num.2,Xd,s45 _ _ (by rw [Xf];omega) (by omega) h.member,Xd,s45 _ _ (by rw [Xf,Xf];omega) (by omega) h.owner,Xd];simp only [Wn,Xl]
structure Js.Good (r:Js):Prop where
 core:N63 r.core
 view:r.view.Good
 state:r.state.Good
 next:r.next.Good
 proposal:r.proposal.Good
def ZiL (r:Js):List Int:=nB r.core++(Wn r.view++(YS r.state++(bB r.ready++(Wn r.next++YS r.proposal))))
def ZkC (b:Bool):(bB b).length≤11:=by
 unfold bB;split
 ·exact ZU 1
 ·exact ZU 0
def Zpv (r:Js) (h:r.Good):(ZiL r).length≤7000000000:=by
 have a:=ZU r.core;have b:=VD _ h.view;have c:=V4 _ h.state;have d:=ZkC r.ready;have e:=VD _ h.next;have f:=V4 _ h.proposal;unfold ZiL;rw [Xf,Xf,Xf,Xf,Xf];omega
def ZK0 (l:List Int) (a:l.length≤50000000000) (r:Js) (h:r.Good):ZGP (Za l) r.core r.view.number (Zd r.view.members) (Zd r.view.owners) (r.state.slots.map Zv) (r.state.pending.map Jq) (r.state.marks.map Zz) (r.state.answers.map JB) (r.state.entries.map Zi) (Ze r.state.commits) r.ready r.next.number (Zd r.next.members) (Zd r.next.owners) (r.proposal.slots.map Zv) (r.proposal.pending.map Jq) (r.proposal.marks.map Zz) (r.proposal.answers.map JB) (r.proposal.entries.map Zi) (Ze r.proposal.commits)=Xa (Za (l++ZiL r)):=by
 have b:=ZU r.core;have c:=VD _ h.view;have d:=V4 _ h.state;have e:=ZkC r.ready;have f:=VD _ h.next;rw [ZxE,s38 l (by omega) h.core.1 h.core.2,Xd,ZFp _ (by rw [Xf];omega) _ h.view,Xd,ZFQ _ (by rw [Xf,Xf];omega) _ h.state,Xd,ZIN _ (by rw [Xf,Xf,Xf];omega),Xd,ZFp _ (by rw [Xf,Xf,Xf,Xf];omega) _ h.next,Xd,ZFQ _ (by rw [Xf,Xf,Xf,Xf,Xf];omega) _ h.proposal,Xd];simp only [ZiL,Xl]
def s46 (l:List Int) (a:l.length≤50000000000) (r:Js) (h:r.Good):g46 (Za l) r.core r.view.number (Zd r.view.members) (Zd r.view.owners) (r.state.slots.map Zv) (r.state.pending.map Jq) (r.state.marks.map Zz) (r.state.answers.map JB) (r.state.entries.map Zi) (Ze r.state.commits) r.ready r.next.number (Zd r.next.members) (Zd r.next.owners) (r.proposal.slots.map Zv) (r.proposal.pending.map Jq) (r.proposal.marks.map Zz) (r.proposal.answers.map JB) (r.proposal.entries.map Zi) (Ze r.proposal.commits)=Xa (Za (l++ZiL r)):=by
 have b:=ZU r.core;have c:=VD _ h.view;have d:=V4 _ h.state;have e:=ZkC r.ready;have f:=VD _ h.next;rw [ZyY,s40 l (by omega) h.core.1 h.core.2,Xd,s48 _ (by rw [Xf];omega) _ h.view,Xd,s47 _ (by rw [Xf,Xf];omega) _ h.state,Xd,s42 _ (by rw [Xf,Xf,Xf];omega),Xd,s48 _ (by rw [Xf,Xf,Xf,Xf];omega) _ h.next,Xd,s47 _ (by rw [Xf,Xf,Xf,Xf,Xf];omega) _ h.proposal,Xd];simp only [ZiL,Xl]
structure Msg.Good (m:Msg):Prop where
 kind:N63 m.kind
 view:N63 m.view
 frm:N63 m.frm
 to:N63 m.to
 round:N63 m.round
 region:N63 m.region
 slot:N63 m.slot
 op:m.op.Small
 err:N63 m.err
 req:m.req.Good
 idsn:m.ids.length≤2097152
 ids:∀ x∈m.ids,x.Small
 nodesn:m.nodes.length≤2097152
 nodes:∀ x∈m.nodes,x.path.length < 2^63
 coresn:m.cores.length≤2097152
 cores:∀ x∈m.cores,0≤x∧x < 2^63
 movesn:m.moves.length≤2097152
 moves:∀ x∈m.moves,(0≤x.region∧x.region < 2^63)∧0≤x.to∧x.to < 2^63
 base:N63 m.base
 next:m.next.Good
 state:m.state.Good
 report:m.report.Good
def ZZ (m:Msg):Nat→List Int
 | 0 => nB m.region
 | 1 => Wz m.req
 | 2 => idB m.op
 | 3 => nB m.err
 | 4 => bB m.settled
 | 5 => Zs YA m.nodes
 | 6 => nB m.slot
 | 7 => Zs idB m.ids
 | 8 => nB m.round
 | 9 => Zs nB m.cores
 | 10 => ZiL m.report
 | 11 => nB m.base
 | 12 => Wn m.next
 | 13 => YS m.state
 | 14 => Zs Wk m.moves
 | _ => []
def Zp1 (m:Msg) (h:m.Good) (f:Nat):(ZZ m f).length≤7000000000:=by
 have g:=Jg YA 411 _ m.nodes (fun x _=>K2 x) h.nodesn;have i:=Jg idB 33 _ m.ids (fun x _=>YP x) h.idsn;have j:=Jg nB 11 _ m.cores (fun x _=>ZU x) h.coresn;have a:=Jg Wk 22 _ m.moves (fun x _=>Zde x) h.movesn;have b:=Zpv _ h.report;have c:=VD _ h.next;have d:=V4 _ h.state;have k:=ZaU m.req;have l:=YP m.op;have n:=ZkC m.settled;have o:=ZU m.region;have p:=ZU m.err;have q:=ZU m.slot;have r:=ZU m.round;have e:=ZU m.base;unfold ZZ;split<;>first | omega | simp
def s39 (m:Msg) (h:m.Good) (l:List Int) (a:l.length≤50000000000):∀ f:Nat,f < 15→ofM (g39 (Za l)) m (f:Int)=Xa (Za (l++ZZ m f))
 | 0, _ => (Vp ..).trans (congrArg (fun x => X8 x Xa) (s38 l (by omega) h.region.1 h.region.2))
 | 1, _ => (Vp ..).trans (congrArg (fun x => X8 x Xa) (ZJd l (by omega) _ h.req))
 | 2, _ => (Vp ..).trans (congrArg (fun x => X8 x Xa) (ZAF l (by omega) h.op))
 | 3, _ => (Vp ..).trans (congrArg (fun x => X8 x Xa) (s38 l (by omega) h.err.1 h.err.2))
 | 4, _ => (Vp ..).trans (congrArg (fun x => X8 x Xa) (ZIN l (by omega) _))
 | 5, _ => (Vp ..).trans (congrArg (fun x => X8 x Xa) (ZKH l _ (by have := h.nodesn; omega) (by have := h.nodesn; omega) h.nodes))
 | 6, _ => (Vp ..).trans (congrArg (fun x => X8 x Xa) (s38 l (by omega) h.slot.1 h.slot.2))
 | 7, _ => (Vp ..).trans (congrArg (fun x => X8 x Xa) (ZIC l _ (by have := h.idsn; omega) (by have := h.idsn; omega) h.ids))
 | 8, _ => (Vp ..).trans (congrArg (fun x => X8 x Xa) (s38 l (by omega) h.round.1 h.round.2))
 | 9, _ => (Vp ..).trans (congrArg (fun x => X8 x Xa) (ZHT l _ (by have := h.coresn; omega) (by have := h.coresn; omega) h.cores))
 | 10, _ => (Vp ..).trans (congrArg (fun x => X8 x Xa) (ZK0 l a _ h.report))
 | 11, _ => (Vp ..).trans (congrArg (fun x => X8 x Xa) (s38 l (by omega) h.base.1 h.base.2))
 | 12, _ => (Vp ..).trans (congrArg (fun x => X8 x Xa) (ZFp l (by omega) _ h.next))
 | 13, _ => (Vp ..).trans (congrArg (fun x => X8 x Xa) (ZFQ l (by omega) _ h.state))
 | 14, _ => (Vp ..).trans (congrArg (fun x => X8 x Xa) (ZK5 l _ (by have := h.movesn; omega) (by have := h.movesn; omega) h.moves))
def Yk (m:Msg):List Int:=nB m.kind++(nB m.view++(nB m.frm++nB m.to))
def ZeY (m:Msg):List Int:=Yk m++((kf m.kind.toNat).map (ZZ m)).flatten
def Zrk (n:Nat):(kf n).length≤5:=by unfold kf;split<;>simp
def ZKK (m:Msg) (h:m.Good) (L:List Nat) (e:∀ f∈L,f < 15) (g:L.length≤5) (b:List Int) (d:b.length≤10000000000) :
  ofM (Zoq Zr) m (fc L) (L.length:Int) 0 (Za b)=Xa (Za (b++(L.map (ZZ m)).flatten),0):=by
 unfold ofM;refine Ya (F:=fun k a i=>ofM (Zoq k) m (fc L) (L.length:Int) i a) (l:=L) (ZZ m) (fun b=>Xa (Za b,0)) 7000000000 50000000000 (by omega) (fun x _=>Zp1 m h x) (fun k i b c d=>?_) (fun k i b c d=>?_) b (by omega)
 ·refine (Zmx ..).trans ?_;rw [P4 (Z4 c)];refine (Zls c _).trans ?_;rw [← ume (g39 _) m,s39 m h b d _ (e _ (Xq c)),Xd,ZS c (by omega)]
 ·refine (Zmx ..).trans ?_;rw [P3 (Z3 c)]
def s14 (m:Msg) (p:m.Fits) (h:Z1 m=Xb→m.Good):ofM g14 m=Xa (if Z1 m=Xb then (Za (ZeY m),0) else (E0,1)):=by
 unfold ofM;rw [ZBb,← ume g12 m,s12 m p,Xd]
 cases hv:Z1 m with
 | false => rfl
 | true =>
  have d:=h hv;rw [P3 (by simp),P4 rfl]
  have s:1≤m.kind∧m.kind≤17:=by
   unfold Z1 headOk kindOk at hv;simp only [Xj,P5] at hv;exact hv.1.1.1.1
  obtain ⟨n,q⟩:∃ n:Nat,m.kind=n:=⟨m.kind.toNat,by omega⟩;have g:g32 m.kind=Xa (fc (kf n),Xb):=by rw [q];exact s32 n (by omega) (by omega)
  have j:m.kind.toNat=n:=by omega
  have f:(fc (kf n)).length=(kf n).length:=Xk _
  have e:=Ya (F:=fun k a i=>ofM (Ztf k) m (Zd [m.kind,m.view,m.frm,m.to]) (([m.kind,m.view,m.frm,m.to] : List Int).length:Int) i a) (l:=[m.kind,m.view,m.frm,m.to]) nB (fun b=>Xa (Za (b++((kf n).map (ZZ m)).flatten),0)) 11 1000 (by simp) (fun x _=>ZU x)
   (fun k i b c r=>by
    refine (Zmn ..).trans ?_
    have o:N63 ([m.kind,m.view,m.frm,m.to] : List Int)[i]:=by
     have:=Xq c;simp only [Xs,Tm,or_false] at this;rcases this with e | e | e | e
     ·rw [e];exact d.kind
     ·rw [e];exact d.view
     ·rw [e];exact d.frm
     ·rw [e];exact d.to
    rw [P4 (Z4 c)];refine (Z2 c _).trans ?_;rw [s38 b (by omega) o.1 o.2,Xd,ZS c (by simp)])
   (fun k i b c r=>by
    refine (Zmn ..).trans ?_;rw [P3 (Z3 c),g,Xd];dsimp only;rw [f,← ume (Zoq _) m,ZKK m d (kf n) (Zxy n) (Zrk n) b (by omega)])
   [] (by simp)
  refine XR e ?_;simp only [ZeY,Yk,j,Xn,XI,XD,Uf,XM,XY,Xl]
def l15 (m:Msg) (h:m.Good) (b:List Int) (e:b.length≤10000000000):ofM (Y9 Zr) m (Za b) 0=Xa (Za (b++(m.nodes.map YA).flatten),0):=by
 unfold ofM;have f:=h.nodesn;have d:m.nodes.length < 2^63:=by omega
 refine Ya (F:=fun k a i=>ofM (Y9 k) m a i) (l:=m.nodes) YA (fun b=>Xa (Za b,0)) 411 50000000000 d (fun x _=>K2 x) (fun k i b c e=>?_) (fun k i b c e=>?_) b (by omega)
 ·refine (ZlX ..).trans ?_;rw [Xk,P4 (Z4 c)];refine (Y8 c _).trans ?_;simp only [Ziv,d2,d4,d8,P2,d6,df,dg,dh,di,dj,dk,dl];rw [s49 b (by omega) _ (h.nodes _ (Xq c)),Xd,ZS c d]
 ·refine (ZlX ..).trans ?_;rw [Xk,P3 (Z3 c)]
def ZLu (m:Msg) (g:m.kind=17) (h:m.Good) (b:List Int) (f:b.length≤10000000000):ofM (Zot Zr) m (Za b) 0=Xa (Za (b++(m.moves.map Wk).flatten),0):=by
 unfold ofM;have j:=h.movesn;have d:m.moves.length < 2^63:=by omega
 refine Ya (F:=fun k a i=>ofM (Zot k) m a i) (l:=m.moves) Wk (fun b=>Xa (Za b,0)) 22 50000000000 d (fun x _=>Zde x) (fun k i b c f=>?_) (fun k i b c f=>?_) b (by omega)
 ·refine (ZlE ..).trans ?_;have e:=h.moves _ (Xq c);have n:=ZU m.moves[i].region;rw [Xk,P4 (Z4 c)];refine (Yt c _).trans ?_;simp only [Yt c];rw [s40 b (by omega) e.1.1 e.1.2,Xd,s40 _ (by rw [Xf];omega) e.2.1 e.2.2,Xd,ZS c d,Xl];rfl
 ·refine (ZlE ..).trans ?_;rw [Xk,P3 (Z3 c),P3 (show ¬ (P0 .eql m.kind 2)=Xb by simp only [CQ];omega),P3 (show ¬ (P0 .eql m.kind 4)=Xb by simp only [CQ];omega)]
def YB (m:Msg) (h:m.Good):(nB m.region).length≤11∧(Wz m.req).length≤598∧(idB m.op).length≤33∧(nB m.err).length≤11∧(bB m.settled).length≤11∧(nB m.slot).length≤11∧(nB m.round).length≤11∧(nB m.base).length≤11∧
  m.nodes.length≤2097152∧m.ids.length≤2097152∧m.cores.length≤2097152∧m.moves.length≤2097152∧(nB (m.nodes.length:Int)).length≤11∧(nB (m.moves.length:Int)).length≤11∧(Zs idB m.ids).length≤11+33*2097152∧(Zs nB m.cores).length≤11+11*2097152∧
  (ZiL m.report).length≤7000000000∧(Wn m.next).length≤50000000∧(YS m.state).length≤3400000000∧(nB m.kind).length≤11∧(nB m.view).length≤11∧(nB m.frm).length≤11∧(nB m.to).length≤11:=
 ⟨ZU m.region,ZaU m.req,YP m.op,ZU m.err,ZkC m.settled,ZU m.slot,ZU m.round,ZU m.base,h.nodesn,h.idsn,h.coresn,h.movesn,ZU _,ZU _,Jg idB 33 _ m.ids (fun x _=>YP x) h.idsn,Jg nB 11 _ m.cores (fun x _=>ZU x) h.coresn,
  Zpv _ h.report,VD _ h.next,V4 _ h.state,ZU m.kind,ZU m.view,ZU m.frm,ZU m.to⟩
@[reducible] def G8 (m:Msg):=ofM g15 m
def ZJD (m:Msg) (a:m.Fits) (h:m.Good) (b:Z1 m=Xb) (c:m.kind=1):G8 m=Xa (Za (Yk m++((kf 1).map (ZZ m)).flatten),0):=by
 obtain ⟨l,n,o,p,q,r,s,d,t,u,v,e,w,f,x,y,g,i,j,z,A,C,D⟩:=YB m h;have k:E0=Za []:=rfl;unfold G8 ofM;rw [Ko,← ume g16 m,s16 m a,Xd,b,P3 (show ¬ (!true)=Xb by decide),k,s40 [] (by simp) h.kind.1 h.kind.2,Xd,s40 _ (by simp only [Xf,Xm];omega) h.view.1 h.view.2,Xd,s40 _ (by simp only [Xf,Xm];omega) h.frm.1 h.frm.2,Xd,s40 _ (by simp only [Xf,Xm];omega) h.to.1 h.to.2,Xd];rw [P4 (keq c)];rw [s40 _ (by simp only [Xf,Xm];omega) h.region.1 h.region.2,Xd];rw [s41 _ (by simp only [Xf,Xm];omega) _ h.req,Xd];rw [kn m 2 (by omega),kn m 4 (by omega)];simp only [Yk,kf,ZZ,Zs,Xn,XI,XD,Uf,XM,XY,Xl]
def ZJB (m:Msg) (b:m.Fits) (h:m.Good) (c:Z1 m=Xb) (a:m.kind=2):G8 m=Xa (Za (Yk m++((kf 2).map (ZZ m)).flatten),0):=by
 obtain ⟨l,n,o,p,q,r,s,d,t,u,v,e,w,f,x,y,g,i,j,z,A,C,D⟩:=YB m h;have k:E0=Za []:=rfl;unfold G8 ofM;rw [Ko,← ume g16 m,s16 m b,Xd,c,P3 (show ¬ (!true)=Xb by decide),k,s40 [] (by simp) h.kind.1 h.kind.2,Xd,s40 _ (by simp only [Xf,Xm];omega) h.view.1 h.view.2,Xd,s40 _ (by simp only [Xf,Xm];omega) h.frm.1 h.frm.2,Xd,s40 _ (by simp only [Xf,Xm];omega) h.to.1 h.to.2,Xd];rw [kn m 1 (by omega)];rw [P4 (keq a)];rw [s40 _ (by simp only [Xf,Xm];omega) h.region.1 h.region.2,Xd];rw [Znb _ (by simp only [Xf,Xm];omega) h.op,Xd];rw [s40 _ (by simp only [Xf,Xm];omega) h.err.1 h.err.2,Xd];rw [s42 _ (by simp only [Xf,Xm];omega),Xd];rw [P4 (keq a)];rw [Xk,s40 _ (by simp only [Xf,Xm];omega) (by omega) (by omega),Xd];rw [← ume (Y9 _) m,l15 m h _ (by simp only [Xf,Xm];omega)];simp only [Yk,kf,ZZ,Zs,Xn,XI,XD,Uf,XM,XY,Xl]
def ZKn (m:Msg) (a:m.Fits) (h:m.Good) (b:Z1 m=Xb) (k:m.kind=3):G8 m=Xa (Za (Yk m++((kf 3).map (ZZ m)).flatten),0):=by
 obtain ⟨l,n,o,p,q,r,s,c,t,u,v,d,w,e,x,y,f,g,i,z,A,C,D⟩:=YB m h;have j:E0=Za []:=rfl;unfold G8 ofM;rw [Ko,← ume g16 m,s16 m a,Xd,b,P3 (show ¬ (!true)=Xb by decide),j,s40 [] (by simp) h.kind.1 h.kind.2,Xd,s40 _ (by simp only [Xf,Xm];omega) h.view.1 h.view.2,Xd,s40 _ (by simp only [Xf,Xm];omega) h.frm.1 h.frm.2,Xd,s40 _ (by simp only [Xf,Xm];omega) h.to.1 h.to.2,Xd];rw [kn m 1 (by omega),kn m 2 (by omega),kn m 4 (by omega),kn m 5 (by omega),kn m 6 (by omega),kn m 12 (by omega),kn m 13 (by omega),kn m 14 (by omega),kn m 15 (by omega),kn m 16 (by omega),kn m 17 (by omega)];rw [s40 _ (by simp only [Xf,Xm];omega) h.region.1 h.region.2,Xd];rw [Znb _ (by simp only [Xf,Xm];omega) h.op,Xd];rw [kn m 2 (by omega),kn m 4 (by omega)];simp only [Yk,kf,ZZ,Zs,Xn,XI,XD,Uf,XM,XY,Xl]
def ZKd (m:Msg) (b:m.Fits) (h:m.Good) (c:Z1 m=Xb) (a:m.kind=4):G8 m=Xa (Za (Yk m++((kf 4).map (ZZ m)).flatten),0):=by
 obtain ⟨l,n,o,p,q,r,s,d,t,u,v,e,w,f,x,y,g,i,j,z,A,C,D⟩:=YB m h;have k:E0=Za []:=rfl;unfold G8 ofM;rw [Ko,← ume g16 m,s16 m b,Xd,c,P3 (show ¬ (!true)=Xb by decide),k,s40 [] (by simp) h.kind.1 h.kind.2,Xd,s40 _ (by simp only [Xf,Xm];omega) h.view.1 h.view.2,Xd,s40 _ (by simp only [Xf,Xm];omega) h.frm.1 h.frm.2,Xd,s40 _ (by simp only [Xf,Xm];omega) h.to.1 h.to.2,Xd];rw [kn m 1 (by omega),kn m 2 (by omega)];rw [P4 (keq a)];rw [s40 _ (by simp only [Xf,Xm];omega) h.region.1 h.region.2,Xd];rw [Znb _ (by simp only [Xf,Xm];omega) h.op,Xd];rw [s40 _ (by simp only [Xf,Xm];omega) h.slot.1 h.slot.2,Xd];rw [kn m 2 (by omega)];rw [P4 (keq a)];rw [Xk,s40 _ (by simp only [Xf,Xm];omega) (by omega) (by omega),Xd];rw [← ume (Y9 _) m,l15 m h _ (by simp only [Xf,Xm];omega)];simp only [Yk,kf,ZZ,Zs,Xn,XI,XD,Uf,XM,XY,Xl]
def ZKv (m:Msg) (a:m.Fits) (h:m.Good) (b:Z1 m=Xb) (c:m.kind=5):G8 m=Xa (Za (Yk m++((kf 5).map (ZZ m)).flatten),0):=by
 obtain ⟨l,n,o,p,q,r,s,d,t,u,v,e,w,f,x,y,g,i,j,z,A,C,D⟩:=YB m h;have k:E0=Za []:=rfl;unfold G8 ofM;rw [Ko,← ume g16 m,s16 m a,Xd,b,P3 (show ¬ (!true)=Xb by decide),k,s40 [] (by simp) h.kind.1 h.kind.2,Xd,s40 _ (by simp only [Xf,Xm];omega) h.view.1 h.view.2,Xd,s40 _ (by simp only [Xf,Xm];omega) h.frm.1 h.frm.2,Xd,s40 _ (by simp only [Xf,Xm];omega) h.to.1 h.to.2,Xd];rw [kn m 1 (by omega),kn m 2 (by omega),kn m 4 (by omega)];rw [P4 (keq c)];rw [s40 _ (by simp only [Xf,Xm];omega) h.region.1 h.region.2,Xd];rw [Znb _ (by simp only [Xf,Xm];omega) h.op,Xd];rw [s40 _ (by simp only [Xf,Xm];omega) h.err.1 h.err.2,Xd];rw [kn m 2 (by omega),kn m 4 (by omega)];simp only [Yk,kf,ZZ,Zs,Xn,XI,XD,Uf,XM,XY,Xl]
def ZJI (m:Msg) (a:m.Fits) (h:m.Good) (b:Z1 m=Xb) (c:m.kind=6):G8 m=Xa (Za (Yk m++((kf 6).map (ZZ m)).flatten),0):=by
 obtain ⟨l,n,o,p,q,r,s,d,t,u,v,e,w,f,x,y,g,i,j,z,A,C,D⟩:=YB m h;have k:E0=Za []:=rfl;unfold G8 ofM;rw [Ko,← ume g16 m,s16 m a,Xd,b,P3 (show ¬ (!true)=Xb by decide),k,s40 [] (by simp) h.kind.1 h.kind.2,Xd,s40 _ (by simp only [Xf,Xm];omega) h.view.1 h.view.2,Xd,s40 _ (by simp only [Xf,Xm];omega) h.frm.1 h.frm.2,Xd,s40 _ (by simp only [Xf,Xm];omega) h.to.1 h.to.2,Xd];rw [kn m 1 (by omega),kn m 2 (by omega),kn m 4 (by omega),kn m 5 (by omega)];rw [P4 (keq c)];rw [s40 _ (by simp only [Xf,Xm];omega) h.region.1 h.region.2,Xd];rw [Znb _ (by simp only [Xf,Xm];omega) h.op,Xd];rw [s44 _ _ (by simp only [Xf,Xm];omega) (by omega) h.ids,Xd];rw [kn m 2 (by omega),kn m 4 (by omega)];simp only [Yk,kf,ZZ,Zs,Xn,XI,XD,Uf,XM,XY,Xl]
def ZKV (m:Msg) (a:m.Fits) (h:m.Good) (b:Z1 m=Xb) (k:m.kind=7):G8 m=Xa (Za (Yk m++((kf 7).map (ZZ m)).flatten),0):=by
 obtain ⟨l,n,o,p,q,r,s,c,t,u,v,d,w,e,x,y,f,g,i,z,A,C,D⟩:=YB m h;have j:E0=Za []:=rfl;unfold G8 ofM;rw [Ko,← ume g16 m,s16 m a,Xd,b,P3 (show ¬ (!true)=Xb by decide),j,s40 [] (by simp) h.kind.1 h.kind.2,Xd,s40 _ (by simp only [Xf,Xm];omega) h.view.1 h.view.2,Xd,s40 _ (by simp only [Xf,Xm];omega) h.frm.1 h.frm.2,Xd,s40 _ (by simp only [Xf,Xm];omega) h.to.1 h.to.2,Xd];rw [kn m 1 (by omega),kn m 2 (by omega),kn m 4 (by omega),kn m 5 (by omega),kn m 6 (by omega),kn m 12 (by omega),kn m 13 (by omega),kn m 14 (by omega),kn m 15 (by omega),kn m 16 (by omega),kn m 17 (by omega)];rw [s40 _ (by simp only [Xf,Xm];omega) h.region.1 h.region.2,Xd];rw [Znb _ (by simp only [Xf,Xm];omega) h.op,Xd];rw [kn m 2 (by omega),kn m 4 (by omega)];simp only [Yk,kf,ZZ,Zs,Xn,XI,XD,Uf,XM,XY,Xl]
def ZJ9 (m:Msg) (a:m.Fits) (h:m.Good) (b:Z1 m=Xb) (k:m.kind=8):G8 m=Xa (Za (Yk m++((kf 8).map (ZZ m)).flatten),0):=by
 obtain ⟨l,n,o,p,q,r,s,c,t,u,v,d,w,e,x,y,f,g,i,z,A,C,D⟩:=YB m h;have j:E0=Za []:=rfl;unfold G8 ofM;rw [Ko,← ume g16 m,s16 m a,Xd,b,P3 (show ¬ (!true)=Xb by decide),j,s40 [] (by simp) h.kind.1 h.kind.2,Xd,s40 _ (by simp only [Xf,Xm];omega) h.view.1 h.view.2,Xd,s40 _ (by simp only [Xf,Xm];omega) h.frm.1 h.frm.2,Xd,s40 _ (by simp only [Xf,Xm];omega) h.to.1 h.to.2,Xd];rw [kn m 1 (by omega),kn m 2 (by omega),kn m 4 (by omega),kn m 5 (by omega),kn m 6 (by omega),kn m 12 (by omega),kn m 13 (by omega),kn m 14 (by omega),kn m 15 (by omega),kn m 16 (by omega),kn m 17 (by omega)];rw [s40 _ (by simp only [Xf,Xm];omega) h.region.1 h.region.2,Xd];rw [Znb _ (by simp only [Xf,Xm];omega) h.op,Xd];rw [kn m 2 (by omega),kn m 4 (by omega)];simp only [Yk,kf,ZZ,Zs,Xn,XI,XD,Uf,XM,XY,Xl]
def ZKq (m:Msg) (a:m.Fits) (h:m.Good) (b:Z1 m=Xb) (k:m.kind=9):G8 m=Xa (Za (Yk m++((kf 9).map (ZZ m)).flatten),0):=by
 obtain ⟨l,n,o,p,q,r,s,c,t,u,v,d,w,e,x,y,f,g,i,z,A,C,D⟩:=YB m h;have j:E0=Za []:=rfl;unfold G8 ofM;rw [Ko,← ume g16 m,s16 m a,Xd,b,P3 (show ¬ (!true)=Xb by decide),j,s40 [] (by simp) h.kind.1 h.kind.2,Xd,s40 _ (by simp only [Xf,Xm];omega) h.view.1 h.view.2,Xd,s40 _ (by simp only [Xf,Xm];omega) h.frm.1 h.frm.2,Xd,s40 _ (by simp only [Xf,Xm];omega) h.to.1 h.to.2,Xd];rw [kn m 1 (by omega),kn m 2 (by omega),kn m 4 (by omega),kn m 5 (by omega),kn m 6 (by omega),kn m 12 (by omega),kn m 13 (by omega),kn m 14 (by omega),kn m 15 (by omega),kn m 16 (by omega),kn m 17 (by omega)];rw [s40 _ (by simp only [Xf,Xm];omega) h.region.1 h.region.2,Xd];rw [Znb _ (by simp only [Xf,Xm];omega) h.op,Xd];rw [kn m 2 (by omega),kn m 4 (by omega)];simp only [Yk,kf,ZZ,Zs,Xn,XI,XD,Uf,XM,XY,Xl]
def ZHQ (m:Msg) (a:m.Fits) (h:m.Good) (b:Z1 m=Xb) (k:m.kind=10):G8 m=Xa (Za (Yk m++((kf 10).map (ZZ m)).flatten),0):=by
 obtain ⟨l,n,o,p,q,r,s,c,t,u,v,d,w,e,x,y,f,g,i,z,A,C,D⟩:=YB m h;have j:E0=Za []:=rfl;unfold G8 ofM;rw [Ko,← ume g16 m,s16 m a,Xd,b,P3 (show ¬ (!true)=Xb by decide),j,s40 [] (by simp) h.kind.1 h.kind.2,Xd,s40 _ (by simp only [Xf,Xm];omega) h.view.1 h.view.2,Xd,s40 _ (by simp only [Xf,Xm];omega) h.frm.1 h.frm.2,Xd,s40 _ (by simp only [Xf,Xm];omega) h.to.1 h.to.2,Xd];rw [kn m 1 (by omega),kn m 2 (by omega),kn m 4 (by omega),kn m 5 (by omega),kn m 6 (by omega),kn m 12 (by omega),kn m 13 (by omega),kn m 14 (by omega),kn m 15 (by omega),kn m 16 (by omega),kn m 17 (by omega)];rw [s40 _ (by simp only [Xf,Xm];omega) h.region.1 h.region.2,Xd];rw [Znb _ (by simp only [Xf,Xm];omega) h.op,Xd];rw [kn m 2 (by omega),kn m 4 (by omega)];simp only [Yk,kf,ZZ,Zs,Xn,XI,XD,Uf,XM,XY,Xl]
def ZFw (m:Msg) (a:m.Fits) (h:m.Good) (b:Z1 m=Xb) (k:m.kind=11):G8 m=Xa (Za (Yk m++((kf 11).map (ZZ m)).flatten),0):=by
 obtain ⟨l,n,o,p,q,r,s,c,t,u,v,d,w,e,x,y,f,g,i,z,A,C,D⟩:=YB m h;have j:E0=Za []:=rfl;unfold G8 ofM;rw [Ko,← ume g16 m,s16 m a,Xd,b,P3 (show ¬ (!true)=Xb by decide),j,s40 [] (by simp) h.kind.1 h.kind.2,Xd,s40 _ (by simp only [Xf,Xm];omega) h.view.1 h.view.2,Xd,s40 _ (by simp only [Xf,Xm];omega) h.frm.1 h.frm.2,Xd,s40 _ (by simp only [Xf,Xm];omega) h.to.1 h.to.2,Xd];rw [kn m 1 (by omega),kn m 2 (by omega),kn m 4 (by omega),kn m 5 (by omega),kn m 6 (by omega),kn m 12 (by omega),kn m 13 (by omega),kn m 14 (by omega),kn m 15 (by omega),kn m 16 (by omega),kn m 17 (by omega)];rw [s40 _ (by simp only [Xf,Xm];omega) h.region.1 h.region.2,Xd];rw [Znb _ (by simp only [Xf,Xm];omega) h.op,Xd];rw [kn m 2 (by omega),kn m 4 (by omega)];simp only [Yk,kf,ZZ,Zs,Xn,XI,XD,Uf,XM,XY,Xl]
def ZHK (m:Msg) (a:m.Fits) (h:m.Good) (b:Z1 m=Xb) (c:m.kind=12):G8 m=Xa (Za (Yk m++((kf 12).map (ZZ m)).flatten),0):=by
 obtain ⟨l,n,o,p,q,r,s,d,t,u,v,e,w,f,x,y,g,i,j,z,A,C,D⟩:=YB m h;have k:E0=Za []:=rfl;unfold G8 ofM;rw [Ko,← ume g16 m,s16 m a,Xd,b,P3 (show ¬ (!true)=Xb by decide),k,s40 [] (by simp) h.kind.1 h.kind.2,Xd,s40 _ (by simp only [Xf,Xm];omega) h.view.1 h.view.2,Xd,s40 _ (by simp only [Xf,Xm];omega) h.frm.1 h.frm.2,Xd,s40 _ (by simp only [Xf,Xm];omega) h.to.1 h.to.2,Xd];rw [kn m 1 (by omega),kn m 2 (by omega),kn m 4 (by omega),kn m 5 (by omega),kn m 6 (by omega)];rw [P4 (keq c)];rw [s40 _ (by simp only [Xf,Xm];omega) h.round.1 h.round.2,Xd];rw [s45 _ _ (by simp only [Xf,Xm];omega) (by omega) h.cores,Xd];rw [kn m 2 (by omega),kn m 4 (by omega)];simp only [Yk,kf,ZZ,Zs,Xn,XI,XD,Uf,XM,XY,Xl]
def ZH0 (m:Msg) (a:m.Fits) (h:m.Good) (b:Z1 m=Xb) (c:m.kind=13):G8 m=Xa (Za (Yk m++((kf 13).map (ZZ m)).flatten),0):=by
 obtain ⟨l,n,o,p,q,r,s,d,t,u,v,e,w,f,x,y,g,i,j,z,A,C,D⟩:=YB m h;have k:E0=Za []:=rfl;unfold G8 ofM;rw [Ko,← ume g16 m,s16 m a,Xd,b,P3 (show ¬ (!true)=Xb by decide),k,s40 [] (by simp) h.kind.1 h.kind.2,Xd,s40 _ (by simp only [Xf,Xm];omega) h.view.1 h.view.2,Xd,s40 _ (by simp only [Xf,Xm];omega) h.frm.1 h.frm.2,Xd,s40 _ (by simp only [Xf,Xm];omega) h.to.1 h.to.2,Xd];rw [kn m 1 (by omega),kn m 2 (by omega),kn m 4 (by omega),kn m 5 (by omega),kn m 6 (by omega),kn m 12 (by omega)];rw [P4 (keq c)];rw [s40 _ (by simp only [Xf,Xm];omega) h.round.1 h.round.2,Xd];rw [s46 _ (by simp only [Xf,Xm];omega) _ h.report,Xd];rw [kn m 2 (by omega),kn m 4 (by omega)];simp only [Yk,kf,ZZ,Zs,Xn,XI,XD,Uf,XM,XY,Xl]
def ZEJ (m:Msg) (a:m.Fits) (h:m.Good) (b:Z1 m=Xb) (c:m.kind=14):G8 m=Xa (Za (Yk m++((kf 14).map (ZZ m)).flatten),0):=by
 obtain ⟨l,n,o,p,q,r,s,d,t,u,v,e,w,f,x,y,g,i,j,z,A,C,D⟩:=YB m h;have k:E0=Za []:=rfl;unfold G8 ofM;rw [Ko,← ume g16 m,s16 m a,Xd,b,P3 (show ¬ (!true)=Xb by decide),k,s40 [] (by simp) h.kind.1 h.kind.2,Xd,s40 _ (by simp only [Xf,Xm];omega) h.view.1 h.view.2,Xd,s40 _ (by simp only [Xf,Xm];omega) h.frm.1 h.frm.2,Xd,s40 _ (by simp only [Xf,Xm];omega) h.to.1 h.to.2,Xd];rw [kn m 1 (by omega),kn m 2 (by omega),kn m 4 (by omega),kn m 5 (by omega),kn m 6 (by omega),kn m 12 (by omega),kn m 13 (by omega)];rw [P4 (keq c)];rw [s40 _ (by simp only [Xf,Xm];omega) h.round.1 h.round.2,Xd];rw [s40 _ (by simp only [Xf,Xm];omega) h.base.1 h.base.2,Xd];rw [s45 _ _ (by simp only [Xf,Xm];omega) (by omega) h.cores,Xd];rw [s48 _ (by simp only [Xf,Xm];omega) _ h.next,Xd];rw [s47 _ (by simp only [Xf,Xm];omega) _ h.state,Xd];rw [kn m 2 (by omega),kn m 4 (by omega)];simp only [Yk,kf,ZZ,Zs,Xn,XI,XD,Uf,XM,XY,Xl]
def ZGE (m:Msg) (a:m.Fits) (h:m.Good) (b:Z1 m=Xb) (c:m.kind=15):G8 m=Xa (Za (Yk m++((kf 15).map (ZZ m)).flatten),0):=by
 obtain ⟨l,n,o,p,q,r,s,d,t,u,v,e,w,f,x,y,g,i,j,z,A,C,D⟩:=YB m h;have k:E0=Za []:=rfl;unfold G8 ofM;rw [Ko,← ume g16 m,s16 m a,Xd,b,P3 (show ¬ (!true)=Xb by decide),k,s40 [] (by simp) h.kind.1 h.kind.2,Xd,s40 _ (by simp only [Xf,Xm];omega) h.view.1 h.view.2,Xd,s40 _ (by simp only [Xf,Xm];omega) h.frm.1 h.frm.2,Xd,s40 _ (by simp only [Xf,Xm];omega) h.to.1 h.to.2,Xd];rw [kn m 1 (by omega),kn m 2 (by omega),kn m 4 (by omega),kn m 5 (by omega),kn m 6 (by omega),kn m 12 (by omega),kn m 13 (by omega),kn m 14 (by omega)];rw [P4 (keq c)];rw [s40 _ (by simp only [Xf,Xm];omega) h.round.1 h.round.2,Xd];rw [kn m 2 (by omega),kn m 4 (by omega)];simp only [Yk,kf,ZZ,Zs,Xn,XI,XD,Uf,XM,XY,Xl]
def ZGt (m:Msg) (a:m.Fits) (h:m.Good) (b:Z1 m=Xb) (c:m.kind=16):G8 m=Xa (Za (Yk m++((kf 16).map (ZZ m)).flatten),0):=by
 obtain ⟨l,n,o,p,q,r,s,d,t,u,v,e,w,f,x,y,g,i,j,z,A,C,D⟩:=YB m h;have k:E0=Za []:=rfl;unfold G8 ofM;rw [Ko,← ume g16 m,s16 m a,Xd,b,P3 (show ¬ (!true)=Xb by decide),k,s40 [] (by simp) h.kind.1 h.kind.2,Xd,s40 _ (by simp only [Xf,Xm];omega) h.view.1 h.view.2,Xd,s40 _ (by simp only [Xf,Xm];omega) h.frm.1 h.frm.2,Xd,s40 _ (by simp only [Xf,Xm];omega) h.to.1 h.to.2,Xd];rw [kn m 1 (by omega),kn m 2 (by omega),kn m 4 (by omega),kn m 5 (by omega),kn m 6 (by omega),kn m 12 (by omega),kn m 13 (by omega),kn m 14 (by omega),kn m 15 (by omega)];rw [P4 (keq c)];rw [s40 _ (by simp only [Xf,Xm];omega) h.round.1 h.round.2,Xd];rw [kn m 2 (by omega),kn m 4 (by omega)];simp only [Yk,kf,ZZ,Zs,Xn,XI,XD,Uf,XM,XY,Xl]
def ZGS (m:Msg) (b:m.Fits) (h:m.Good) (c:Z1 m=Xb) (a:m.kind=17):G8 m=Xa (Za (Yk m++((kf 17).map (ZZ m)).flatten),0):=by
 obtain ⟨l,n,o,p,q,r,s,d,t,u,v,e,w,f,x,y,g,i,j,z,A,C,D⟩:=YB m h;have k:E0=Za []:=rfl;unfold G8 ofM;rw [Ko,← ume g16 m,s16 m b,Xd,c,P3 (show ¬ (!true)=Xb by decide),k,s40 [] (by simp) h.kind.1 h.kind.2,Xd,s40 _ (by simp only [Xf,Xm];omega) h.view.1 h.view.2,Xd,s40 _ (by simp only [Xf,Xm];omega) h.frm.1 h.frm.2,Xd,s40 _ (by simp only [Xf,Xm];omega) h.to.1 h.to.2,Xd];rw [kn m 1 (by omega),kn m 2 (by omega),kn m 4 (by omega),kn m 5 (by omega),kn m 6 (by omega),kn m 12 (by omega),kn m 13 (by omega),kn m 14 (by omega),kn m 15 (by omega),kn m 16 (by omega)];rw [P4 (keq a)];rw [s45 _ _ (by simp only [Xf,Xm];omega) (by omega) h.cores,Xd];rw [Xk,s40 _ (by simp only [Xf,Xm];omega) (by omega) (by omega),Xd];rw [← ume (Zot _) m,ZLu m a h _ (by simp only [Xf,Xm];omega)];simp only [Yk,kf,ZZ,Zs,Xn,XI,XD,Uf,XM,XY,Xl]
def s15 (m:Msg) (a:m.Fits) (h:Z1 m=Xb→m.Good):ofM g15 m=Xa (if Z1 m=Xb then (Za (ZeY m),0) else (E0,1)):=by
 unfold ofM
 cases hv:Z1 m with
 | false => rw [Ko, ← ume g16 m, s16 m a, Xd, hv]; rfl
 | true =>
  have b:=h hv;rw [P4 rfl]
  have c:1≤m.kind∧m.kind≤17:=by
   unfold Z1 headOk kindOk at hv;simp only [Xj,P5] at hv;exact hv.1.1.1.1
  unfold ZeY;rcases (show m.kind=1∨m.kind=2∨m.kind=3∨m.kind=4∨m.kind=5∨m.kind=6∨m.kind=7∨m.kind=8∨m.kind=9∨m.kind=10∨m.kind=11∨m.kind=12∨m.kind=13∨m.kind=14∨m.kind=15∨m.kind=16∨m.kind=17 by omega) with e | e | e | e | e | e | e | e | e | e | e | e | e | e | e | e | e
  ·refine (ZJD m a b hv e).trans ?_;rw [e];rfl
  ·refine (ZJB m a b hv e).trans ?_;rw [e];rfl
  ·refine (ZKn m a b hv e).trans ?_;rw [e];rfl
  ·refine (ZKd m a b hv e).trans ?_;rw [e];rfl
  ·refine (ZKv m a b hv e).trans ?_;rw [e];rfl
  ·refine (ZJI m a b hv e).trans ?_;rw [e];rfl
  ·refine (ZKV m a b hv e).trans ?_;rw [e];rfl
  ·refine (ZJ9 m a b hv e).trans ?_;rw [e];rfl
  ·refine (ZKq m a b hv e).trans ?_;rw [e];rfl
  ·refine (ZHQ m a b hv e).trans ?_;rw [e];rfl
  ·refine (ZFw m a b hv e).trans ?_;rw [e];rfl
  ·refine (ZHK m a b hv e).trans ?_;rw [e];rfl
  ·refine (ZH0 m a b hv e).trans ?_;rw [e];rfl
  ·refine (ZEJ m a b hv e).trans ?_;rw [e];rfl
  ·refine (ZGE m a b hv e).trans ?_;rw [e];rfl
  ·refine (ZGt m a b hv e).trans ?_;rw [e];rfl
  ·refine (ZGS m a b hv e).trans ?_;rw [e];rfl
def ZKy {z:Int} (h:(Lit.int .i64 z).wf=Xb):Rng z:=by
 have a:IntKind.i64.min = -9223372036854775808:=by decide
 have b:IntKind.i64.max=9223372036854775807:=by decide
 have c:(2:Int)^63=9223372036854775808:=by decide
 simp [Lit.wf,a,b] at h;unfold Rng;omega
def Zat {d:Nat} {cs:List AV} (h:TyZ Tryz.prog (d+1) 3 cs):∃ z,cs = [I z]∧Rng z:=by
 simp only [TyZ,Tryz.underlying3] at h;obtain ⟨z,h,a⟩:=h;exact ⟨z,h,ZKy a⟩
def ZqE {d:Nat} {cs:List AV} (h:TyZ Tryz.prog (d+1) 4 cs):∃ z,cs = [B z]:=by
 simp only [TyZ,Tryz.underlying4] at h;exact h
def ZwN:Tryz.prog.cellsOf 3=1:=by kernel_rfl
structure JD.Sized (s:JD):Prop where
 slots:s.slots.length < 2^44
 pending:s.pending.length < 2^44
 marks:s.marks.length < 2^44
 answers:s.answers.length < 2^44
 entries:s.entries.length < 2^44
 commits:s.commits.length < 2^44
 slot:∀ x∈s.slots,x.node.path.length < 2^44
 req:∀ x∈s.pending,x.src.path.length < 2^44∧∀ z∈Yu x.call,Rng z
 entry:∀ x∈s.entries,x.node.path.length < 2^44
structure Vu.Sized (v:Vu):Prop where
 members:v.members.length < 2^44
 owners:v.owners.length < 2^44
structure Js.Sized (r:Js):Prop where
 view:r.view.Sized
 state:r.state.Sized
 next:r.next.Sized
 proposal:r.proposal.Sized
structure Msg.Sized (m:Msg):Prop where
 req:m.req.src.path.length < 2^44
 call:∀ z∈Yu m.req.call,Rng z
 ids:m.ids.length < 2^44
 nodes:m.nodes.length < 2^44
 node:∀ x∈m.nodes,x.path.length < 2^44
 cores:m.cores.length < 2^44
 moves:m.moves.length < 2^44
 next:m.next.Sized
 state:m.state.Sized
 report:m.report.Sized
def ZeP {n:Nat} (h:n < 2^44):n < 2^63:=by omega
def JD.Sized.fits {s:JD} (h:s.Sized):s.Fits:=⟨ZeP h.slots,ZeP h.pending,ZeP h.marks,ZeP h.answers,ZeP h.entries,ZeP h.commits,fun x a=>ZeP (h.slot x a),fun x a=>ZeP (h.req x a).1,fun x a=>ZeP (h.entry x a)⟩
def Vu.Sized.fits {v:Vu} (h:v.Sized):v.Fits:=⟨ZeP h.members,ZeP h.owners⟩
def Js.Sized.fits {r:Js} (h:r.Sized):r.Fits:=⟨h.view.fits,h.state.fits,h.next.fits,h.proposal.fits⟩
def Msg.Sized.fits {m:Msg} (h:m.Sized):m.Fits:=⟨ZeP h.req,ZeP h.ids,ZeP h.nodes,fun x a=>ZeP (h.node x a),ZeP h.cores,ZeP h.moves,h.next.fits,h.state.fits,h.report.fits⟩
structure JD.Short (s:JD):Prop where
 slots:s.slots.length≤2000000
 pending:s.pending.length≤2000000
 marks:s.marks.length≤2000000
 answers:s.answers.length≤2000000
 entries:s.entries.length≤2000000
 commits:s.commits.length≤2000000
structure Msg.Short (m:Msg):Prop where
 ids:m.ids.length≤2000000
 nodes:m.nodes.length≤2000000
 cores:m.cores.length≤2000000
 moves:m.moves.length≤2000000
 nm:m.next.members.length≤2000000
 no:m.next.owners.length≤2000000
 rvm:m.report.view.members.length≤2000000
 rvo:m.report.view.owners.length≤2000000
 rnm:m.report.next.members.length≤2000000
 rno:m.report.next.owners.length≤2000000
 state:m.state.Short
 rs:m.report.state.Short
 rp:m.report.proposal.Short
def n63 {z a:Int} (b:0≤z) (c:z≤1099511627776):N63 z:=by
 have:(2:Int)^63=9223372036854775808:=by decide
 exact ⟨b,by omega⟩
def Zbl {i:Id} (h:Za4 i=Xb):i.Small:=by
 simp only [Za4,Xj] at h;exact Zjg h.1
def ZsF {z:Int} (h:Jo z=Xb):N63 z:=by have:=of_decide_eq_true h;exact n63 (a:=0) (by omega) (by omega)
def ZcU {z:Int} (h:Zw z=Xb):N63 z:=by have:=of_decide_eq_true h;exact n63 (a:=0) (by omega) (by omega)
def Zt3 {z:Int} (h:JO z=Xb):N63 z:=by have:=of_decide_eq_true h;exact n63 (a:=0) (by omega) (by omega)
def ZyK {z:Int} (h:Zcq z=Xb):N63 z:=by have:=of_decide_eq_true h;exact n63 (a:=0) (by omega) (by omega)
def Zsh {z:Int} (h:JR z=Xb):N63 z:=by have:=of_decide_eq_true h;exact n63 (a:=0) (by omega) (by omega)
def ZdC:N63 0:=⟨by decide,by decide⟩
def ZmU {r:Req} (b:r.src.path.length < 2^44) (c:∀ z∈Yu r.call,Rng z) (h:Kl r=Xb):r.Good:=by
 simp only [Kl,Xj,P5] at h;obtain ⟨⟨⟨⟨d,g⟩,e⟩,i⟩,j⟩:=h;have a:=ZsF e;have f:(2:Int)^63=9223372036854775808:=by decide
 exact ⟨Zbl d,c,a.1,a.2,by omega,by omega,ZeP b⟩
def Zst {r:Req} (a:r.src.path.length < 2^44) (b:∀ z∈Yu r.call,Rng z) (h:Zrx r=Xb):r.Good:=by
 simp only [Zrx,Xj,P5] at h;obtain ⟨⟨⟨⟨c,e⟩,f⟩,g⟩,i⟩:=h;have d:(2:Int)^63=9223372036854775808:=by decide
 exact ⟨by rw [c];exact Zg1,b,by omega,by omega,by omega,by omega,ZeP a⟩
def Zcz {s:JD} (g:s.Sized) (d:s.Short) (h:Yg s=Xb):s.Good:=by
 simp only [Yg,Xj,Xo] at h;obtain ⟨⟨⟨⟨⟨i,j⟩,k⟩,l⟩,m⟩,n⟩:=h;have o:=d.slots;have p:=d.pending;have q:=d.marks;have r:=d.answers;have t:=d.entries;have u:=d.commits
 have c:s.slots.all WH=Xb:=by
  simp only [KQ,Xj] at i;rw [Zkh,Xj,ZcN] at i;exact i.2.1
 rw [Xo] at c;refine ⟨by omega,by omega,by omega,by omega,by omega,by omega,fun x b=>?_,fun x b=>ZmU (g.req x b).1 (g.req x b).2 (j.1 x b),fun x b=>?_,fun x b=>?_,fun x b=>?_,fun x b=>Zbl (n x b)⟩
 ·have h:=c x b;simp only [WH,Xj,P5] at h;obtain ⟨v,f⟩:=h;refine ⟨ZeP (g.slot x b),n63 (a:=0) (by omega) (by omega),?_⟩;split at f
  ·simp only [Xj,P5] at f;rw [f.2];exact Zg1
  ·simp only [Xj,XF,P5] at f;rcases f.2 with e | e
   ·rw [e];exact Zg1
   ·exact Zbl e
 ·have h:=k.1 x b;simp only [Kf,Xj] at h;exact ⟨ZsF h.1,Zbl h.2⟩
 ·have h:=l.1 x b;simp only [Wu,Xj,P5] at h;exact ⟨n63 (a:=0) (by omega) (by omega),ZyK h.2⟩
 ·have h:=m.1 x b;simp only [VR,Xj] at h;exact ⟨ZcU h.1.1,Zt3 h.1.2,ZeP (g.entry x b)⟩
def Vq {a:Type} {l:List a} (h:l.length=0) {p:a→Prop} : ∀ x∈l,p x:=by
 rw [List.length_eq_zero_iff.1 h];intro x b;cases b
def Zcw {s:JD} (g:s.Short) (h:VW s=Xb):s.Good:=by
 simp only [VW,Xj,P5] at h;obtain ⟨⟨⟨⟨⟨a,b⟩,c⟩,d⟩,e⟩,f⟩:=h;exact ⟨by omega,by omega,by omega,by omega,by omega,by omega,Vq a,Vq b,Vq c,Vq d,Vq e,Vq f⟩
def Zdv {v:Vu} (h:KG v=Xb) (e:v.members.length≤2000000) (f:v.owners.length≤2000000):v.Good:=by
 simp only [KG,Xj,P5] at h;obtain ⟨⟨⟨⟨c,g⟩,i⟩,b⟩,d⟩:=h;rw [Zkh,Xj,ZcN] at b;exact ⟨Zsh c,by omega,by omega,fun x a=>ZcU (Xo.1 b.1 x a),fun x a=>ZcU (Xo.1 d x a)⟩
def Zd7 {v:Vu} (h:Zb2 v=Xb):v.Good:=by
 simp only [Zb2,Xj,P5] at h;obtain ⟨⟨a,b⟩,c⟩:=h;exact ⟨by rw [a];exact ZdC,by omega,by omega,Vq b,Vq c⟩
def Zbu {m:Msg} (d:m.Sized) (b:m.Short) (h:Z1 m=Xb):m.Good:=by
 simp only [Z1,headOk,Xj] at h;obtain ⟨⟨⟨⟨j,k⟩,l⟩,n⟩,o,p⟩:=h;have q:=of_decide_eq_true j
 have c:∀ f,f < 15→Zh m f=Xb∨zf m f=Xb:=by
  intro f i;by_cases hc:f∈kf m.kind.toNat
  ·exact .inl (Xo.1 o f hc)
  ·exact .inr (J0 p f i (by simpa using hc))
 have r:=b.ids;have s:=b.nodes;have t:=b.cores;have u:=b.moves;refine ⟨n63 (a:=0) (by omega) (by omega),Zsh k,ZcU l,ZcU n,?_,?_,?_,?_,?_,?_,by omega,?_,by omega,fun x g=>ZeP (d.node x g),by omega,?_,by omega,?_,?_,?_,?_,?_⟩
 ·rcases c 8 (by omega) with e | e
  ·exact Zsh e
  ·rw [show m.round=0 from of_decide_eq_true e];exact ZdC
 ·rcases c 0 (by omega) with e | e
  ·exact ZsF e
  ·rw [show m.region=0 from of_decide_eq_true e];exact ZdC
 ·rcases c 6 (by omega) with e | e
  ·exact Zt3 e
  ·rw [show m.slot=0 from of_decide_eq_true e];exact ZdC
 ·rcases c 2 (by omega) with e | e
  ·exact Zbl e
  ·rw [show m.op=zid from of_decide_eq_true e];exact Zg1
 ·rcases c 3 (by omega) with e | e
  ·exact ZyK e
  ·rw [show m.err=0 from of_decide_eq_true e];exact ZdC
 ·rcases c 1 (by omega) with e | e
  ·exact ZmU d.req d.call e
  ·exact Zst d.req d.call e
 ·rcases c 7 (by omega) with e | e
  ·have e:(decide (m.ids.length≤64)&&m.ids.all Vx)=Xb:=e;simp only [Xj,Xo] at e;exact fun x g=>Zjg (e.2 x g)
  ·exact Vq (of_decide_eq_true e)
 ·rcases c 9 (by omega) with e | e
  ·have e:(m.cores.all Zw&&Ve ltI m.cores)=Xb:=e;simp only [Xj,Xo] at e;exact fun x g=>ZcU (e.1 x g)
  ·exact Vq (of_decide_eq_true e)
 ·rcases c 14 (by omega) with e | e
  ·have e:(decide (m.moves.length≤16)&&m.moves.all KV)=Xb:=e;simp only [Xj,Xo,KV] at e;exact fun x g=>⟨ZsF (e.2 x g).1,ZcU (e.2 x g).2⟩
  ·exact Vq (of_decide_eq_true e)
 ·rcases c 11 (by omega) with e | e
  ·exact Zsh e
  ·rw [show m.base=0 from of_decide_eq_true e];exact ZdC
 ·rcases c 12 (by omega) with e | e
  ·exact Zdv e b.nm b.no
  ·exact Zd7 e
 ·rcases c 13 (by omega) with e | e
  ·exact Zcz d.state b.state e
  ·exact Zcw b.state e
 ·rcases c 10 (by omega) with e | e
  ·have e:Zcy m.report=Xb:=e;simp only [Zcy,Xj] at e;exact ⟨ZcU e.1.1.1.1,Zdv e.1.1.1.2 b.rvm b.rvo,Zcz d.report.state b.rs e.1.1.2,Zdv e.1.2 b.rnm b.rno,Zcz d.report.proposal b.rp e.2⟩
  ·have e:VO m.report=Xb:=e;simp only [VO,Xj,P5] at e;exact ⟨by rw [e.1.1.1.1.1];exact ZdC,Zd7 e.1.1.1.1.2,Zcw b.rs e.1.1.1.2,Zd7 e.1.2,Zcw b.rp e.2⟩
def JP {a b:List Int} (c:Zq a) (d:Zq b):Zq (a++b):=fun z e=>(Xz.1 e).elim (c z) (d z)
def Zt5:Zq []:=fun z a=>by cases a
def Zhh {d:Type} (c:d→List Int) (h:∀ x,Zq (c x)) (l:List d):Zq (l.map c).flatten:=by
 intro z e;obtain ⟨a,f,b⟩:=U4.1 e;obtain ⟨x,_,rfl⟩:=XB.1 f;exact h x z b
def Zcd (z:Int):Zq (nB z):=Kz _
def ZiZ (i:Id):Zq (idB i):=JP (JP (Kz _) (Kz _)) (Kz _)
def ZvT (c:Call):Zq (ZeV c):=Zhh sgB (fun x=>Kz _) _
def Zzc (c:Cap) (h:YH c=Xb):Zq (Jv c):=by
 obtain ⟨f,g,i,j,k,l,m,n,o,b,d,e⟩:=Zbx h;intro z a;simp only [Jv,Xs,Tm,or_false] at a;rcases a with rfl | rfl | rfl | rfl | rfl | rfl | rfl | rfl | rfl | rfl
 ·omega
 ·omega
 ·split<;>omega
 all_goals omega
def Zsv (n:Yc):Zq (Yp n):=by
 unfold Yp;split
 ·rename_i h
  have a:YH n.cap=Xb:=by
   simp only [ZD,Xj] at h;exact h.1.1.2
  exact JP (JP (JP (ZiZ _) (Kz _)) (Zhh idB ZiZ _)) (Zzc n.cap a)
 ·exact Zt5
def ZgW (n:Yc):Zq (YA n):=JP (Zcd _) (Zsv n)
def Zt6 (r:Req):Zq (Wz r):=JP (JP (JP (JP (ZiZ _) (ZvT _)) (Zcd _)) (Zcd _)) (ZgW _)
def Zwe (s:YN):Zq (YO s):=JP (JP (ZgW _) (Zcd _)) (ZiZ _)
def Zvn (m:Zaq):Zq (YJ m):=JP (Zcd _) (ZiZ _)
def ZBZ (m:Ans):Zq (WF m):=JP (Zcd _) (Zcd _)
def Zy0 (e:ZY):Zq (V8 e):=JP (JP (Zcd _) (Zcd _)) (ZgW _)
def Zw3 (m:ZeF):Zq (Wk m):=JP (Zcd _) (Zcd _)
def KN {a:Type} (c:a→List Int) (h:∀ x,Zq (c x)) (l:List a):Zq (Zs c l):=JP (Zcd _) (Zhh c h l)
def ZgA (s:JD):Zq (YS s):=JP (KN _ Zwe _) (JP (KN _ Zt6 _) (JP (KN _ Zvn _) (JP (KN _ ZBZ _) (JP (KN _ Zy0 _) (KN _ ZiZ _)))))
def Zj8 (v:Vu):Zq (Wn v):=JP (Zcd _) (JP (KN _ Zcd _) (KN _ Zcd _))
def ZI4 (b:Bool):Zq (bB b):=by
 unfold bB;split
 ·exact Zcd 1
 ·exact Zcd 0
def ZAq (r:Js):Zq (ZiL r):=JP (Zcd _) (JP (Zj8 _) (JP (ZgA _) (JP (ZI4 _) (JP (Zj8 _) (ZgA _)))))
def ZsE (m:Msg) (f:Nat):Zq (ZZ m f):=by
 unfold ZZ;split
 ·exact Zcd _
 ·exact Zt6 _
 ·exact ZiZ _
 ·exact Zcd _
 ·exact ZI4 _
 ·exact KN _ ZgW _
 ·exact Zcd _
 ·exact KN _ ZiZ _
 ·exact Zcd _
 ·exact KN _ Zcd _
 ·exact ZAq _
 ·exact Zcd _
 ·exact Zj8 _
 ·exact ZgA _
 ·exact KN _ Zw3 _
 ·exact Zt5
def Zo0 (m:Msg):Zq (ZeY m):=JP (JP (Zcd _) (JP (Zcd _) (JP (Zcd _) (Zcd _)))) (Zhh _ (ZsE m) _)
def Zy4 {a b:Int} (l:0≤a) (m:0≤b) (d:a < 2^62) (e:b < 2^62):P1 .or .i64 a b=((a.toNat||| b.toNat:Nat):Int):=by
 have f:(2:Int)^62=4611686018427387904:=by decide
 rw [f] at d e;show Xi .i64 (((BitVec.ofInt 64 a||| BitVec.ofInt 64 b).toNat:Nat):Int)=_;have c:(2:Nat)^64=18446744073709551616:=by decide
 have g:(BitVec.ofInt 64 a).toNat=a.toNat:=by rw [BitVec.toNat_ofInt,c];omega
 have h:(BitVec.ofInt 64 b).toNat=b.toNat:=by rw [BitVec.toNat_ofInt,c];omega
 rw [BitVec.toNat_or,g,h]
 have i:a.toNat||| b.toNat < 2^62:=Nat.or_lt_two_pow (by
  have:(2:Nat)^62=4611686018427387904:=by decide
  omega) (by
  have:(2:Nat)^62=4611686018427387904:=by decide
  omega)
 have j:(2:Nat)^62=4611686018427387904:=by decide
 have k:(2:Int)^63=9223372036854775808:=by decide
 exact YK (by omega) (by omega)
def Zbh {a b:Int} {n:Nat} (g:n≤40) (h:0≤a) (i:a < 2^n) (j:0≤b) (d:b≤255):P1 .or .i64 a (b*2^n)=a+b*2^n:=by
 have o:=Yn n;have k:(2:Int)^n≤2^40:=ZgF g;have l:(2:Int)^40=1099511627776:=by decide
 have m:(2:Int)^62=4611686018427387904:=by decide
 have p:b*2^n≤255*2^n:=U9 d (by omega);have e:0≤b*2^n:=Int.mul_nonneg j (by omega);rw [Zy4 h e (by omega) (by omega)]
 have c:(b*2^n).toNat=b.toNat <<< n:=by
  rw [Nat.shiftLeft_eq]
  have:((b.toNat*2^n:Nat):Int)=b*2^n:=by
   rw [Tw,TE];have:((b.toNat:Nat):Int)=b:=by omega
   rw [this];rfl
  omega
 have f:a.toNat < 2^n:=by
  have:((2^n:Nat):Int)=2^n:=by rw [TE];rfl
  omega
 have:=Nat.shiftLeft_add_eq_or_of_lt f b.toNat;rw [Nat.or_comm,c,← this,← c];omega
def Ye {z:Int} (b:0≤z) (c:z≤255):Xi .i64 z=z:=YK (by
 have a:(2:Int)^63=9223372036854775808:=by decide
 omega) (by
 have a:(2:Int)^63=9223372036854775808:=by decide
 omega)
def Ze2 {z:Int} (n:Nat) (c:0≤z) (d:z≤255) (e:n≤40):P1 .shl .i64 z ((n:Nat):Int)=z*2^n:=by
 have i:=Yn n;have f:(2:Int)^n≤2^40:=ZgF e;have g:(2:Int)^40=1099511627776:=by decide
 have h:(2:Int)^63=9223372036854775808:=by decide
 have j:z*2^n≤255*2^n:=U9 d (by omega);have:=ZvZ (a:=z) (b:=(n:Int)) (by omega) (by omega) c (by rw [Uk];omega);rw [Uk] at this;exact this
def J4:List Int→Cap
 | [b0, b1, b2, b3, b4, b5, b6, b7, b8, b9] => ⟨b0, b5 + b6 * 256 + b7 * 65536 + b8 * 16777216 + b9 * 4294967296, b1, b2 % 8, b3, b4, decide (8 ≤ b2)⟩
 | _ => ⟨0, 0, 0, 0, 0, 0, Xc⟩
def VM (L:List Int):Bool:=decide (L.length=10)&&decide (L.getD 2 0≤15)&&YH (J4 L)
def KF (L:List Int):Int×Int×Int×Int×Int×Int×Bool×Int:=
 if VM L=Xb then ((J4 L).kind,(J4 L).base,(J4 L).bits,(J4 L).rights,(J4 L).width,(J4 L).level,(J4 L).device,0) else (0,0,0,0,0,0,Xc,14)
def ZqR {r:Int} (a:0≤r) (b:r≤15):P1 .and .u8 r 7=r % 8∧P0 .neq (P1 .and .u8 r 8) 0=decide (8≤r):=by
 rcases (by omega:r=0∨r=1∨r=2∨r=3∨r=4∨r=5∨r=6∨r=7∨r=8∨r=9∨r=10∨r=11∨r=12∨r=13∨r=14∨r=15) with
  rfl | rfl | rfl | rfl | rfl | rfl | rfl | rfl | rfl | rfl | rfl | rfl | rfl | rfl | rfl | rfl<;>decide
def ZJs {L:List Int} (h:Zq L) (hl:L.length≤1000000):ZHi (Za L)=Xa (KF L):=by
 rw [Zww,ZB];by_cases h10:L.length=10
 ·rw [P3 (by simp only [CQ];omega)]
  obtain ⟨i,j,c,k,l,a,b,d,e,g,rfl⟩:∃ i j c k l a b d e g,L = [i,j,c,k,l,a,b,d,e,g]:=by
   match L,h10 with
   | [i, j, c, k, l, a, b, d, e, g], _ => exact ⟨i, j, c, k, l, a, b, d, e, g, rfl⟩
  obtain ⟨w,x⟩:=h i (by simp);obtain ⟨y,A⟩:=h j (by simp);obtain ⟨C,c2⟩:=h c (by simp);obtain ⟨D,E⟩:=h k (by simp);obtain ⟨G,H⟩:=h l (by simp);obtain ⟨m,n⟩:=h a (by simp);obtain ⟨o,p⟩:=h b (by simp);obtain ⟨q,r⟩:=h d (by simp);obtain ⟨s,t⟩:=h e (by simp);obtain ⟨u,v⟩:=h g (by simp);rw [ZC (z:=c) _ (by decide) rfl];by_cases h15:c≤15
  ·obtain ⟨f,J⟩:=Zlj;obtain ⟨M,N⟩:=ZqR C h15;have O:Xi .i64 (c % 8)=c % 8:=Ye (by omega) (by omega)
   rw [P3 (by simp only [CQ];omega),ZC (z:=i) _ (by decide) rfl,ZC (z:=j) _ (by decide) rfl,ZC (z:=c) _ (by decide) rfl,ZC (z:=k) _ (by decide) rfl,ZC (z:=l) _ (by decide) rfl,ZC (z:=c) _ (by decide) rfl,
    M,N,O,Ye w x,Ye y A,Ye D E,Ye G H,J]
   have Q:P1 .mul .i64 8 0=((0:Nat):Int):=by decide
   have R:P1 .mul .i64 8 1=((8:Nat):Int):=by decide
   have S:P1 .mul .i64 8 2=((16:Nat):Int):=by decide
   have T:P1 .mul .i64 8 3=((24:Nat):Int):=by decide
   have U:P1 .mul .i64 8 4=((32:Nat):Int):=by decide
   have p0:(2:Int)^0=1:=by decide
   have W:(2:Int)^8=256:=by decide
   have X:(2:Int)^16=65536:=by decide
   have Y:(2:Int)^24=16777216:=by decide
   have Z:(2:Int)^32=4294967296:=by decide
   have o0:P1 .or .i64 0 (a*2^0)=a:=by rw [Zbh (by decide) (by decide) (by decide) m n];omega
   have o1:P1 .or .i64 a (b*2^8)=a+b*256:=by rw [Zbh (by decide) m (by omega) o p,W]
   have o2:P1 .or .i64 (a+b*256) (d*2^16)=a+b*256+d*65536:=by rw [Zbh (by decide) (by omega) (by omega) q r,X]
   have o3:P1 .or .i64 (a+b*256+d*65536) (e*2^24)=a+b*256+d*65536+e*16777216:=by rw [Zbh (by decide) (by omega) (by omega) s t,Y]
   have o4:P1 .or .i64 (a+b*256+d*65536+e*16777216) (g*2^32)=a+b*256+d*65536+e*16777216+g*4294967296:=by rw [Zbh (by decide) (by omega) (by omega) u v,Z]
   rw [VS,P4 (by decide),show P1 .add .i64 5 0=5 by decide,ZC (z:=a) _ (by decide) rfl,Zg (by decide),Q,Ye m n,Ze2 0 m n (by decide),o0,show P1 .add .i64 0 1=1 by decide,
    VS,P4 (by decide),show P1 .add .i64 5 1=6 by decide,ZC (z:=b) _ (by decide) rfl,Zg (by decide),R,Ye o p,Ze2 8 o p (by decide),o1,show P1 .add .i64 1 1=2 by decide,
    VS,P4 (by decide),show P1 .add .i64 5 2=7 by decide,ZC (z:=d) _ (by decide) rfl,Zg (by decide),S,Ye q r,Ze2 16 q r (by decide),o2,show P1 .add .i64 2 1=3 by decide,
    VS,P4 (by decide),show P1 .add .i64 5 3=8 by decide,ZC (z:=e) _ (by decide) rfl,Zg (by decide),T,Ye s t,Ze2 24 s t (by decide),o3,show P1 .add .i64 3 1=4 by decide,
    VS,P4 (by decide),show P1 .add .i64 5 4=9 by decide,ZC (z:=g) _ (by decide) rfl,Zg (by decide),U,Ye u v,Ze2 32 u v (by decide),o4,show P1 .add .i64 4 1=5 by decide,
    VS,P3 (by decide),ZGy]
   simp only [Xd];have hd:VM [i,j,c,k,l,a,b,d,e,g]=YH (J4 [i,j,c,k,l,a,b,d,e,g]):=by simp [VM,h15]
   simp only [KF,hd,J4]
   cases YH ⟨i,a+b*256+d*65536+e*16777216+g*4294967296,j,c % 8,k,l,decide (8≤c)⟩ <;> simp
  ·rw [P4 (by simp only [CQ];omega)];have:VM [i,j,c,k,l,a,b,d,e,g]=Xc:=by simp [VM,h15]
   simp [KF,this]
 ·rw [P4 (by simp only [CQ];omega)];have:VM L=Xc:=by simp [VM,h10]
  simp [KF,this]
def ZiE (c:Cap):Zq (ZcW c):=by
 unfold ZcW;split
 ·rename_i h;obtain ⟨f,g,i,j,k,l,m,n,o,b,d,e⟩:=Zbx h;intro z a;simp only [Jv,Xs,Tm,or_false] at a;rcases a with rfl | rfl | rfl | rfl | rfl | rfl | rfl | rfl | rfl | rfl
  ·omega
  ·omega
  ·split<;>omega
  all_goals omega
 ·intro z a;simp at a
def Zo4 {c:Cap} (h:YH c=Xb):J4 (ZcW c)=c∧VM (ZcW c)=Xb:=by
 obtain ⟨i,j,m,n,o,p,q,t,u,e,f,g⟩:=Zbx h
 have a:J4 (ZcW c)=c:=by
  obtain ⟨k,b,s,r,w,l,d⟩:=c;simp only [ZcW,h,if_true,Jv,J4] at *
  cases d
  ·simp only [Xw,if_false];congr 1
   ·omega
   ·omega
   ·simp;omega
  ·simp only [if_true];congr 1
   ·omega
   ·omega
   ·simp;omega
 refine ⟨a,?_⟩;simp only [VM,a,h,Bool.and_true,Xj,P5];simp only [ZcW,h,if_true,Jv];refine ⟨rfl,?_⟩;simp only [List.getD_cons_succ,List.getD_cons_zero];split<;>omega
def ZxM {L:List Int} (a:Zq L) (h:VM L=Xb):ZcW (J4 L)=L:=by
 simp only [VM,Xj,P5] at h;obtain ⟨⟨m,n⟩,o⟩:=h
 obtain ⟨i,j,b,k,l,c,d,e,f,g,rfl⟩:∃ i j b k l c d e f g,L = [i,j,b,k,l,c,d,e,f,g]:=by
  match L,m with
  | [i, j, b, k, l, c, d, e, f, g], _ => exact ⟨i, j, b, k, l, c, d, e, f, g, rfl⟩
 obtain ⟨p,q⟩:=a b (by simp);obtain ⟨r,s⟩:=a c (by simp);obtain ⟨t,u⟩:=a d (by simp);obtain ⟨v,w⟩:=a e (by simp);obtain ⟨x,y⟩:=a f (by simp);obtain ⟨z,A⟩:=a g (by simp);simp only [List.getD_cons_succ,List.getD_cons_zero] at n;simp only [ZcW,o,if_true,Jv];simp only [J4,P5,List.cons.injEq,true_and,and_true];refine ⟨?_,?_,?_,?_,?_,?_⟩
 ·split<;>omega
 all_goals omega
def Zdj (l:List Id) (x:Id):Ze l++(E0++[[I x.core,I x.op,I x.part]])=Ze (l++[x]):=by
 simp [Ze,idc]
def rd:Nat→List Int→Option (Nat×Nat)
 | _, [] => Xe
 | n, c :: cs =>
  if n=9∧1 < c then Xe else if 0 < n∧c=0 then Xe else if c < 128 then Xa (c.toNat,1) else
  match rd (n+1) cs with
  | some (w, k) => Xa ((c - 128).toNat + 128 * w, k + 1)
  | none => Xe
def ZJY {c:Int} (a:0≤c) (b:c≤255):Xi .u64 (P1 .and .u8 c 127)=c % 128:=by
 have:∀ c:Fin 256,Xi .u64 (P1 .and .u8 ((c.val:Nat):Int) 127)=((c.val:Nat):Int) % 128:=by decide +kernel
 have h:=this ⟨c.toNat,by omega⟩;have e:((c.toNat:Nat):Int)=c:=by omega
 dsimp only at h;rw [e] at h;exact h
def Zzu {a m n:Nat} (d:a < 2^(7*n)) (l:7*n≤63) (e:m*2^(7*n)+a < 2^64):P1 .or .u64 (a:Int) (P1 .shl .u64 (m:Int) ((7*n:Nat):Int))=((a+2^(7*n)*m:Nat):Int):=by
 have f:(2:Int)^64=18446744073709551616:=by decide
 have b:(2:Nat)^64=18446744073709551616:=by decide
 have c:min (((7*n:Nat):Int)).toNat IntKind.u64.bits=7*n:=by
  have:IntKind.u64.bits=64:=rfl;omega
 have g:(m:Int)*2^(7*n)=((m*2^(7*n):Nat):Int):=by
  rw [Tw,TE];rfl
 have h:P1 .shl .u64 (m:Int) ((7*n:Nat):Int)=((m*2^(7*n):Nat):Int):=by
  show Xi .u64 ((m:Int)*2^(min (((7*n:Nat):Int)).toNat IntKind.u64.bits))=_;rw [c,g,Jc (by omega) (by omega)]
 rw [h]
 have i:(BitVec.ofInt 64 (a:Int)||| BitVec.ofInt 64 ((m*2^(7*n):Nat):Int)).toNat=a+2^(7*n)*m:=by
  have j:(((a:Int)) % ((2^64:Nat):Int)).toNat=a:=by rw [b];omega
  have k:((((m*2^(7*n):Nat):Int)) % ((2^64:Nat):Int)).toNat=m*2^(7*n):=by rw [b];omega
  rw [BitVec.toNat_or,BitVec.toNat_ofInt,BitVec.toNat_ofInt,j,k,Nat.or_comm,Nat.mul_comm m,← Nat.two_pow_add_eq_or_of_lt d,Nat.add_comm]
 show Xi .u64 (((BitVec.ofInt 64 (a:Int)||| BitVec.ofInt 64 ((m*2^(7*n):Nat):Int)).toNat:Nat):Int)=_;rw [i,Jc (by omega) (by rw [Nat.mul_comm] at e;omega)]
def ZKg {g:List Int} (L:Zq g) (hl:g.length≤1000000) (off:Nat):∀ (cs:List Int) (n a b:Nat),g.drop (off+n)=cs→off+n≤g.length→n≤9→cs.length < a→b < 2^(7*n)→
  match rd n cs with
  | some (w, k) => Za5 a (Za g) off b n = Xa (((b + 2 ^ (7 * n) * w : Nat) : Int), ((off + n + k : Nat) : Int), 0)
  | none => ∃ e, e ≠ 0 ∧ Za5 a (Za g) off b n = Xa (0, 0, e) := by
 have A:(2:Nat)^64=18446744073709551616:=by decide
 intro cs
 induction cs with
 | nil =>
  intro n a b o M N C t;obtain ⟨f,rfl⟩:∃ f,a=f+1:=⟨a-1,by omega⟩
  have D:off+n=g.length:=by
   have:=List.drop_eq_nil_iff.1 o;omega
  have u:P1 .add .i64 (off:Int) (n:Int)=((off+n:Nat):Int):=by rw [JE (by omega) (by omega)];omega
  exact ⟨52,by decide,by rw [Zih,u,ZB,P4 (by simp only [CQ];omega)]⟩
 | cons c cs ih =>
  intro n a b o M N C t;obtain ⟨f,rfl⟩:∃ f,a=f+1:=⟨a-1,by omega⟩
  have O:off+n < g.length:=by
   rcases Nat.lt_or_ge (off+n) g.length with h | h
   ·exact h
   ·rw [Up h] at o;cases o
  have E:g[off+n]? = Xa c:=by
   have:=congrArg (fun l=>l[0]?) o;simpa using this
  have v:g[((off+n:Nat):Int).toNat]? = Xa c:=by rw [Uk];exact E
  have x:g.drop (off+(n+1))=cs:=by
   have:=congrArg (Uw 1) o;rw [UU] at this;simpa [Ui] using this
  obtain ⟨Q,R⟩:=L c (List.mem_of_getElem? E);have u:P1 .add .i64 (off:Int) (n:Int)=((off+n:Nat):Int):=by rw [JE (by omega) (by omega)];omega
  have S:P1 .add .i64 (n:Int) 1=((n+1:Nat):Int):=by rw [JE (by omega) (by omega)];omega
  have U:P1 .add .i64 (off:Int) ((n+1:Nat):Int)=((off+n+1:Nat):Int):=by rw [JE (by omega) (by omega)];omega
  have W:P1 .mul .i64 7 (n:Int)=((7*n:Nat):Int):=by rw [Zfd (by omega) (by omega)];omega
  have r:c % 128=((c.toNat % 128:Nat):Int):=by omega
  rw [Zih,u,ZB,P3 (by simp only [CQ];omega),ZC _ (by omega) v,ZJY Q R,S,U,W,r]
  have tail:(¬ (n=9∧1 < c))→(¬ (0 < n∧c=0))→∀ (T:Option (Int×Int×Int)),T=(Zy ((0:Int)≤((7*n:Nat):Int))<|
    if (P0 .lss c 128)=Xb then Xa ((P1 .or .u64 (b:Int) (P1 .shl .u64 ((c.toNat % 128:Nat):Int) ((7*n:Nat):Int))),((off+n+1:Nat):Int),0)
    else Za5 f (Za g) off (P1 .or .u64 (b:Int) (P1 .shl .u64 ((c.toNat % 128:Nat):Int) ((7*n:Nat):Int))) ((n+1:Nat):Int))→
    match rd n (c::cs) with
    | some (w, k) => T = Xa (((b + 2 ^ (7 * n) * w : Nat) : Int), ((off + n + k : Nat) : Int), 0)
    | none => ∃ e, e ≠ 0 ∧ T = Xa (0, 0, e) := by
   intro y G T q
   have j:c.toNat % 128*2^(7*n)+b < 2^64:=by
    by_cases h9:n=9
    ·subst h9;have H:c.toNat % 128*2^(7*9)≤1*2^(7*9):=Nat.mul_le_mul_right _ (by omega);have z:1*2^(7*9)+2^(7*9)=(2:Nat)^64:=by decide
     have J:=Nat.add_lt_add_of_le_of_lt H t;rw [z] at J;exact J
    ·have X:(2:Nat)^(7*n)≤2^56:=Tk (by decide) (by omega);have H:c.toNat % 128*2^(7*n)≤127*2^56:=Tl (by omega) X;have Y:(2:Nat)^56=72057594037927936:=by decide
     omega
   rw [Zg (by omega),Zzu t (by omega) j] at q;by_cases hc128:c < 128
   ·have d:rd n (c::cs)=Xa (c.toNat,1):=by rw [rd,P3 y,P3 G,P4 hc128]
    rw [d];dsimp only;have i:c.toNat % 128=c.toNat:=by omega
    rw [P4 (by simp only [CQ];exact hc128),i] at q;exact q
   ·have Z:n≠9:=fun h=>y ⟨h,by omega⟩;have i:(c-128).toNat=c.toNat % 128:=by omega
    rw [P3 (by simp only [CQ];exact hc128)] at q
    have m:(2:Nat)^(7*(n+1))=2^(7*n)*128:=by
     rw [show 7*(n+1)=7*n+7 by omega,Nat.pow_add]
    have s:b+2^(7*n)*(c.toNat % 128) < 2^(7*(n+1)):=by
     rw [m];have hh:2^(7*n)*(c.toNat % 128)≤2^(7*n)*127:=U3 _ (by omega);omega
    have:=ih (n+1) f (b+2^(7*n)*(c.toNat % 128)) x (by omega) (by omega) (by simp at C;omega) s;have d:rd n (c::cs)=match rd (n+1) cs with | some (w,k)=>Xa ((c-128).toNat+128*w,k+1) | none=>Xe:=by rw [rd,P3 y,P3 G,P3 hc128]
    rw [d]
    cases hr:rd (n+1) cs with
    | none =>
     rw [hr] at this;obtain ⟨e,he,hg⟩:=this;exact ⟨e,he,q.trans hg⟩
    | some p =>
     obtain ⟨w,k⟩:=p;rw [hr] at this;dsimp only at this ⊢;rw [q,this,i,m]
     have e1:b+2^(7*n)*(c.toNat % 128)+2^(7*n)*128*w=b+2^(7*n)*(c.toNat % 128+128*w):=by
      rw [Nat.mul_add,Nat.mul_assoc,Ui]
     have e2:off+(n+1)+k=off+n+(k+1):=by omega
     rw [e1,e2]
  by_cases h9:n=9
  ·rw [P4 (by simp only [CQ];omega)];by_cases hc1:1 < c
   ·have d:rd n (c::cs)=Xe:=by rw [rd,P4 ⟨h9,hc1⟩]
    rw [d];exact ⟨6,by decide,by rw [P4 (by simp only [CQ];exact hc1)]⟩
   ·rw [P3 (by simp only [CQ];exact hc1),P4 (by simp only [CQ];omega)];by_cases hz:c=0
    ·have d:rd n (c::cs)=Xe:=by rw [rd,P3 fun h=>hc1 h.2,P4 ⟨by omega,hz⟩]
     rw [d];exact ⟨54,by decide,by rw [P4 (by simp only [CQ];exact hz)]⟩
    ·rw [P3 (by simp only [CQ];exact hz)];exact tail (fun h=>hc1 h.2) (fun h=>hz h.2) _ rfl
  ·rw [P3 (by simp only [CQ];omega)];by_cases hn0:0 < n
   ·rw [P4 (by simp only [CQ];omega)];by_cases hz:c=0
    ·have d:rd n (c::cs)=Xe:=by rw [rd,P3 fun h=>h9 h.1,P4 ⟨hn0,hz⟩]
     rw [d];exact ⟨54,by decide,by rw [P4 (by simp only [CQ];exact hz)]⟩
    ·rw [P3 (by simp only [CQ];exact hz)];exact tail (fun h=>h9 h.1) (fun h=>hz h.2) _ rfl
   ·rw [P3 (by simp only [CQ];omega)];exact tail (fun h=>h9 h.1) (fun h=>hn0 h.1) _ rfl
def ZFN {a:List Int} (b:Zq a) (c:a.length≤1000000) (off:Nat) (d:off≤a.length) :
  match rd 0 (a.drop off) with
  | some (w, k) => Zyu (Za a) off = Xa ((w : Int), ((off + k : Nat) : Int), 0)
  | none => ∃ e, e ≠ 0 ∧ Zyu (Za a) off = Xa (0, 0, e) := by
 have h:=ZKg b c off (a.drop off) 0 Zr 0 rfl (by omega) (by omega) (JW (by rw [Un];omega)) (by decide);rw [ZuR,P3 (by simp only [CQ];omega),ZB,P3 (by simp only [CQ];omega)]
 cases hr:rd 0 (a.drop off) with
 | none => rw [hr] at h; exact h
 | some p =>
  obtain ⟨w,k⟩:=p;rw [hr] at h;dsimp only at h ⊢;rw [show 0+2^(7*0)*w=w by simp] at h;exact h
def Zos:∀ (l:List Int) (n w k:Nat),Zq l→n≤9→rd n l=Xa (w,k)→w < 2^(64-7*n)∧(0 < n→0 < w)∧k≤l.length∧0 < k
 | [], n, w, k, _, _, h => by simp [rd] at h
 | c :: cs, n, w, k, hb, hn, h => by
  obtain ⟨m,o⟩:=hb c (by simp);rw [rd] at h;split at h
  ·cases h
  ·rename_i a;split at h
   ·cases h
   ·rename_i q;split at h
    ·rename_i b;simp only [Xg,XG] at h;obtain ⟨rfl,rfl⟩:=h;refine ⟨?_,fun h=>by omega,by simp,by decide⟩;by_cases h9:n=9
     ·subst h9;show c.toNat < 2;omega
     ·have:(2:Nat)^7≤2^(64-7*n):=Tk (by decide) (by omega);have r:(2:Nat)^7=128:=by decide
      omega
    ·rename_i b;have d:n≠9:=fun e=>a ⟨e,by omega⟩
     cases hr:rd (n+1) cs with
     | none => rw [hr] at h; cases h
     | some p =>
      obtain ⟨w',f⟩:=p;rw [hr] at h;simp only [Xg,XG] at h;obtain ⟨rfl,rfl⟩:=h;obtain ⟨s,g,t,g4⟩:=Zos cs (n+1) w' f (fun z i=>hb z (by simp [i])) (by omega) hr
      have j:(2:Nat)^(64-7*n)=2^(64-7*(n+1))*128:=by
       rw [show 64-7*n=64-7*(n+1)+7 by omega,Nat.pow_add]
      rw [j];have:=g (by omega);exact ⟨by omega,fun _=>by omega,by simp;omega,by omega⟩
def ZCj:∀ (l:List Int) (n w k:Nat),Zq l→n≤9→rd n l=Xa (w,k)→l.take k=uv w
 | [], n, w, k, _, _, h => by simp [rd] at h
 | c :: cs, n, w, k, hb, hn, h => by
  obtain ⟨s,t⟩:=hb c (by simp);have b:=(Zos (c::cs) n w k hb hn h).1;have d:w < 2^64:=Nat.lt_of_lt_of_le b (Tk (by decide) (by omega));rw [rd] at h;split at h
  ·cases h
  ·rename_i f;split at h
   ·cases h
   ·split at h
    ·rename_i g;simp only [Xg,XG] at h;obtain ⟨rfl,rfl⟩:=h;rw [Y6 d,P4 (by omega)];simp;omega
    ·rename_i g;have i:n≠9:=fun j=>f ⟨j,by omega⟩
     cases hr:rd (n+1) cs with
     | none => rw [hr] at h; cases h
     | some p =>
      obtain ⟨w',e⟩:=p;rw [hr] at h;simp only [Xg,XG] at h;obtain ⟨rfl,rfl⟩:=h;have a:Zq cs:=fun z m=>hb z (by simp [m]);obtain ⟨u,o,v,g4⟩:=Zos cs (n+1) w' e a (by omega) hr;have:=o (by omega);have ih:=ZCj cs (n+1) w' e a (by omega) hr;have q:((c-128).toNat+128*w') / 128=w':=by omega
      have r:((((c-128).toNat+128*w') % 128+128:Nat):Int)=c:=by omega
      rw [List.take_succ_cons,ih,Y6 d,P3 (by omega),q,r]
def ZCm:∀ (m v n:Nat) (r:List Int),v < 128^m→v < 2^64→n+m≤9→(0 < n→0 < v)→rd n (uv v++r)=Xa (v,uvN v)
 | 0, v, n, r, h, hv, hn, h0 => by
  have a:v=0:=by simpa using h
  subst a;have:¬ 0 < n:=fun b=>absurd (h0 b) (by decide);have:n=0:=by omega
  subst this;rfl
 | m + 1, v, n, r, h, hv, hn, h0 => by
  rw [Y6 hv,Zhe hv];by_cases hs:v < 128
  ·rw [P4 hs,P4 hs,XV,rd,P3 (by omega),P3 (by omega),P4 (by omega)];simp
  ·have c:v / 128 < 128^m:=by
    rw [UJ] at h;exact UQ (by omega)
   rw [P3 hs,P3 hs,XV,rd,P3 (by omega),P3 (by omega),P3 (by omega),ZCm m (v / 128) (n+1) r c (by omega) (by omega) (fun _=>by omega)];simp only [Xg,XG,and_true];omega
def rdo (lim:Nat) (a:List Int) (off:Nat):Option (Nat×Nat):=
 match rd 0 (a.drop off) with
 | some (w, k) => if w ≤ lim then Xa (w, off + k) else Xe
 | none => Xe
def ZeG {lim:Nat} {a:List Int} (e:Zq a) {off w o:Nat} (i:off≤a.length) (h:rdo lim a off=Xa (w,o)):w≤lim∧off < o∧o≤a.length∧(a.drop off).take (o-off)=uv w:=by
 unfold rdo at h;split at h
 ·rename_i w' k d;split at h
  ·rename_i c;simp only [Xg,XG] at h;obtain ⟨rfl,rfl⟩:=h;have b:Zq (a.drop off):=fun z f=>e z (X4 f);obtain ⟨j,l,g,g4⟩:=Zos _ 0 _ _ b (by omega) d;rw [Un] at g;refine ⟨c,by omega,by omega,?_⟩;rw [show off+k-off=k by omega];exact ZCj _ 0 _ _ b (by omega) d
  ·cases h
 ·cases h
def Zll (x0:List (List AV)) (x1 x3:Int):ZvD x0 x1 Xb x3=Xa (0,x0,x1,Xb):=by
 rw [Zrg,P4 rfl]
def ZD7 {a:List Int} (c:Zq a) (d:a.length≤1000000) (off:Nat) (f:off≤a.length) (lim:Nat) (b:lim < 2^62) :
  ZvD (Za a) off Xc lim=Xa (match rdo lim a off with | some (w,o)=>((w:Int),Za a,(o:Int),Xc) | none=>(0,Za a,(off:Int),Xb)):=by
 have g:(2:Nat)^62=4611686018427387904:=by decide
 have i:(2:Int)^64=18446744073709551616:=by decide
 have j:(2:Int)^63=9223372036854775808:=by decide
 have l:Xi .u64 (lim:Int)=(lim:Int):=Jc (by omega) (by omega);have h:=ZFN c d off f;rw [Zrg,P3 (by simp),l];unfold rdo
 cases hr:rd 0 (a.drop off) with
 | none =>
  rw [hr] at h;obtain ⟨e,m,n⟩:=h;rw [n,Xd,P4 (by simp only [CQ];exact m)]
 | some p =>
  obtain ⟨w,k⟩:=p;rw [hr] at h;dsimp only at h ⊢;rw [h,Xd,P3 (by simp [P0])];dsimp only;by_cases hw:w≤lim
  ·rw [P3 (by simp only [CQ];omega),P4 hw,YK (by omega) (by omega)]
  ·rw [P4 (by simp only [CQ];omega),P3 hw]
def rid (d:List Int) (off:Nat):Option (Id×Nat):=
 match rdo 32 d off with
 | none => Xe
 | some (a, o) =>
  match rdo 1073741824 d o with
  | none => Xe
  | some (b, o) =>
   match rdo 8 d o with
   | none => Xe
   | some (c, o) => Xa (⟨a, b, c⟩, o)
def ZF4 (x0:List (List AV)) (x1:Int):Zyy x0 x1 Xb=Xa (0,0,0,x0,x1,Xb):=by
 rw [Zrc,Zll,Xd,Zll,Xd,Zll,Xd]
def ZIy {d:List Int} (e:Zq d) (f:d.length≤1000000) (off:Nat) (g:off≤d.length) :
  match rid d off with
  | some (i, o) => Zyy (Za d) off Xc = Xa (i.core, i.op, i.part, Za d, (o : Int), Xc)
  | none => ∃ a b c o, Zyy (Za d) off Xc = Xa (a, b, c, Za d, o, Xb) := by
 have h:=ZD7 e f off g 32 (by decide);rw [Zrc];have q:(((32:Nat):Nat):Int)=32:=rfl;have r:(((1073741824:Nat):Nat):Int)=1073741824:=rfl;have s:(((8:Nat):Nat):Int)=8:=rfl;rw [q] at h;rw [h,Xd];unfold rid
 cases h1:rdo 32 d off with
 | none =>
  dsimp only;rw [Zll,Xd,Zll,Xd];exact ⟨_,_,_,_,rfl⟩
 | some p =>
  obtain ⟨a,j⟩:=p;obtain ⟨u,v,k,w⟩:=ZeG e g h1;dsimp only;have l:=ZD7 e f j k 1073741824 (by decide);rw [r] at l;rw [l,Xd]
  cases h2:rdo 1073741824 d j with
  | none =>
   dsimp only;rw [Zll,Xd];exact ⟨_,_,_,_,rfl⟩
  | some p =>
   obtain ⟨b,m⟩:=p;obtain ⟨x,y,t,z⟩:=ZeG e k h2;dsimp only;have n:=ZD7 e f m t 8 (by decide);rw [s] at n;rw [n,Xd]
   cases h3:rdo 8 d m with
   | none => exact ⟨_, _, _, _, rfl⟩
   | some p => rfl
def WU {l:List Int} {a b c:Nat} (d:a≤b) (f:b≤c):(l.drop a).take (c-a)=(l.drop a).take (b-a)++(l.drop b).take (c-b):=by
 have e:c-a=(b-a)+(c-b):=by omega
 rw [e,List.take_add,UU,show a+(b-a)=b by omega]
def ZlP {d:List Int} (e:Zq d) {off o:Nat} {i:Id} (f:off≤d.length) (h:rid d off=Xa (i,o)):off < o∧o≤d.length∧(d.drop off).take (o-off)=idB i:=by
 unfold rid at h;split at h
 ·cases h
 ·rename_i a g j;obtain ⟨u,v,k,l⟩:=ZeG e f j;split at h
  ·cases h
  ·rename_i b m n;obtain ⟨w,x,p,q⟩:=ZeG e k n;split at h
   ·cases h
   ·rename_i c y r;obtain ⟨z,A,s,t⟩:=ZeG e p r;simp only [Xg,XG] at h;obtain ⟨rfl,rfl⟩:=h;refine ⟨by omega,s,?_⟩;rw [WU (b:=m) (by omega) (by omega),WU (b:=g) (by omega) (by omega),l,q,t];rfl
def Zn7 (a:List Int):Nat→Nat→Option (List Id×Nat)
 | 0, off => Xa ([], off)
 | c + 1, off =>
  match rid a off with
  | none => Xe
  | some (i, o) =>
   match Zn7 a c o with
   | none => Xe
   | some (l, o) => Xa (i :: l, o)
abbrev ZzL:=Int×Int×Int×List (List AV)×Int×Int×Int×Int×Int×Int×Bool×Int
def Y4 (r:Option Yc):ZzL:=
 match r with
 | some n => (n.id.core, n.id.op, n.id.part, Ze n.path, n.cap.kind, n.cap.base, n.cap.bits, n.cap.rights, n.cap.width, n.cap.level, n.cap.device, 0)
 | none => (0, 0, 0, [], 0, 0, 0, 0, 0, 0, Xc, 14)
def Zvy (a:List Int) (i:Id) (p:List Id) (o:Nat):Option Yc:=
 if VM (a.drop o)=Xb∧ZD ⟨i,p,J4 (a.drop o)⟩=Xb then Xa ⟨i,p,J4 (a.drop o)⟩ else Xe
def Zkj (a:List Int):Option Yc:=
 match rid a 0 with
 | none => Xe
 | some (i, o) =>
  match rdo 8 a o with
  | none => Xe
  | some (c, o) =>
   match Zn7 a c o with
   | none => Xe
   | some (p, o) => Zvy a i p o
def ZvO (y:List (List AV)) (i:Id) (x0:List (List AV)) (c:Nat) (l:c≤8):∀ (j k a:Nat) (b:List (List AV)) (off:Int),c=k+j→j < a→b.length≤k→
  Zfw a x0 0 0 0 [] 0 0 0 0 0 0 Xc i.core i.op i.part b 0 0 0 0 0 0 Xc (c:Int) (k:Int) y off Xb=Xa (Y4 Xe):=by
 intro j
 induction j with
 | zero =>
  intro k a b off h d e;obtain ⟨f,rfl⟩:∃ f,a=f+1:=⟨a-1,by omega⟩;rw [Zbd,P3 (by simp only [CQ];omega),P4 rfl];rfl
 | succ j ih =>
  intro k a b off h d e;obtain ⟨f,rfl⟩:∃ f,a=f+1:=⟨a-1,by omega⟩;have g:P1 .add .i64 (k:Int) 1=((k+1:Nat):Int):=by rw [JE (by omega) (by omega)];omega
  rw [Zbd,P4 (by simp only [CQ];omega),ZF4,Xd,Zg (WX (by simp;omega)),g];exact ih (k+1) f _ _ (by omega) (by omega) (by simp;omega)
def ZGU {a:List Int} (e:Zq a) (h:a.length≤1000000) (i:Id) (p:List Id) (j:p.length≤8) (o:Nat) (k:o≤a.length) (f:Nat) (c:Nat) (y:List (List AV)) :
  Zfw (f+1) (Za a) 0 0 0 [] 0 0 0 0 0 0 Xc i.core i.op i.part (Ze p) 0 0 0 0 0 0 Xc (c:Int) (c:Int) y (o:Int) Xc=Xa (Y4 (Zvy a i p o)):=by
 have d:Zq (a.drop o):=fun z g=>e z (X4 g);have b:Uw (XJ (o:Int)) (Za a)=Za (a.drop o):=by simp [Za,Uy]
 rw [Zbd,P3 (by simp [P0]),P3 (by simp),Zg (by omega),Zg (by rw [ZB];omega),b,ZJs d (by rw [Un];omega),Xd];unfold KF Zvy
 cases hd:VM (a.drop o) with
 | false =>
  rw [P3 UE];dsimp only;rw [P4 (by decide),P3 (by simp)];rfl
 | true =>
  rw [P4 rfl];dsimp only;have q:=s95 ⟨i,p,J4 (a.drop o)⟩ (by show p.length < _;omega);dsimp only at q;rw [P3 (by simp [P0]),q,Xd]
  cases hn:ZD ⟨i,p,J4 (a.drop o)⟩ with
  | false =>
   rw [P4 (by simp),P3 (by simp)];rfl
  | true =>
   rw [P3 (by simp),P4 ⟨rfl,rfl⟩];rfl
def ZK9 {m:List Int} (s:Zq m) (v:m.length≤1000000) (i:Id) (c:Nat) (y:c≤8):∀ (j k e:Nat) (g:List Id) (off:Nat),c=k+j→j < e→g.length=k→off≤m.length→
  Zfw e (Za m) 0 0 0 [] 0 0 0 0 0 0 Xc i.core i.op i.part (Ze g) 0 0 0 0 0 0 Xc (c:Int) (k:Int) (Za m) (off:Int) Xc =
   Xa (Y4 (match Zn7 m j off with | none=>Xe | some (l,o)=>Zvy m i (g++l) o)):=by
 intro j
 induction j with
 | zero =>
  intro k e g off h z A r;obtain ⟨f,rfl⟩:∃ f,e=f+1:=⟨e-1,by omega⟩;have t:c=k:=by omega
  subst t;rw [ZGU s v i g (by omega) off r f c];simp only [Zn7,XY]
 | succ j ih =>
  intro k e g off h z A r;obtain ⟨f,rfl⟩:∃ f,e=f+1:=⟨e-1,by omega⟩;have w:P1 .add .i64 (k:Int) 1=((k+1:Nat):Int):=by rw [JE (by omega) (by omega)];omega
  have n:=ZIy s v off r;rw [Zbd,P4 (by simp only [CQ];omega)]
  cases hr:rid m off with
  | none =>
   rw [hr] at n;obtain ⟨a,b,d,o,C⟩:=n;rw [C,Xd,Zg (WX (by rw [ZX];simp;omega)),w];have:=ZvO (Za m) i (Za m) c y j (k+1) f (Ze g++(E0++[[I a,I b,I d]])) o (by omega) (by omega) (by rw [Xf,ZX];simp;omega);simp only [Zn7,hr];exact this
  | some p =>
   obtain ⟨x,o⟩:=p;rw [hr] at n;dsimp only at n;obtain ⟨E,D,G⟩:=ZlP s r hr;have u:=Zdj g x;rw [n,Xd,Zg (WX (by rw [ZX];simp;omega)),w];dsimp only;rw [u,ih (k+1) f _ o (by omega) (by omega) (by simp;omega) D];simp only [Zn7,hr]
   cases Zn7 m j o with
   | none => rfl
   | some q => simp [Xl]
def ZJ8 {f:List Int} (g:Zq f) (h:f.length≤1000000):ZEO (Za f)=Xa (Y4 (Zkj f)):=by
 have e:=ZIy g h 0 (XT _);rw [ZxC];unfold Zkj;have k:((0:Nat):Int)=0:=rfl;rw [k] at e
 cases hr:rid f 0 with
 | none =>
  rw [hr] at e;obtain ⟨a,b,d,o,l⟩:=e;rw [l,Xd];dsimp only;rw [Zll,Xd];dsimp only;exact ZvO (Za f) ⟨a,b,d⟩ (Za f) 0 (by omega) 0 0 Zr [] o rfl (JW (by decide)) (Xr _)
 | some p =>
  obtain ⟨i,o⟩:=p;rw [hr] at e;dsimp only at e ⊢;obtain ⟨t,j,u⟩:=ZlP g (XT _) hr;have q:=ZD7 g h o j 8 (by decide);have m:((8:Nat):Int)=8:=rfl;rw [m] at q;rw [e,Xd];dsimp only;rw [q,Xd]
  cases hc:rdo 8 f o with
  | none => exact ZvO (Za f) i (Za f) 0 (by omega) 0 0 Zr [] o rfl (JW (by decide)) (Xr _)
  | some p =>
   obtain ⟨c,n⟩:=p;obtain ⟨r,v,s,w⟩:=ZeG g j hc;dsimp only;have:=ZK9 g h i c r c 0 Zr [] n (by omega) (JW (by omega)) rfl s;exact this
def Zmy {lim v:Nat} (a r:List Int) (b:v≤lim) (e:v < 2^62):rdo lim (a++(uv v++r)) a.length=Xa (v,a.length+uvN v):=by
 have c:(2:Nat)^62=4611686018427387904:=by decide
 have d:(2:Nat)^64=18446744073709551616:=by decide
 have f:(128:Nat)^9=9223372036854775808:=by decide
 unfold rdo;rw [List.drop_left,ZCm 9 v 0 r (by omega) (by omega) (by omega) (fun h=>absurd h (by decide))];simp only [b,if_true]
def Zt7 {i:Id} (e:Vx i=Xb) (a r:List Int):rid (a++(idB i++r)) a.length=Xa (i,a.length+(idB i).length):=by
 obtain ⟨k,l,m,n,o,p⟩:=Zdx e;have f:(2:Nat)^62=4611686018427387904:=by decide
 have c:=Zmy (lim:=32) (v:=i.core.toNat) a (uv i.op.toNat++(uv i.part.toNat++r)) (by omega) (by omega);have d:=Zmy (lim:=1073741824) (v:=i.op.toNat) (a++uv i.core.toNat) (uv i.part.toNat++r) (by omega) (by omega);have b:=Zmy (lim:=8) (v:=i.part.toNat) (a++uv i.core.toNat++uv i.op.toNat) r (by omega) (by omega);simp only [Xl,Xf,YG] at c d b;unfold rid;simp only [idB,Xl,Xf,YG,c,d,Ui] at b ⊢;rw [b];simp only [Xg,XG,and_true];have g:((i.core.toNat:Nat):Int)=i.core:=by omega
 have h:((i.op.toNat:Nat):Int)=i.op:=by omega
 have j:((i.part.toNat:Nat):Int)=i.part:=by omega
 rw [g,h,j]
def ZmW:∀ (l:List Id) (a r:List Int),(∀ x∈l,Vx x=Xb)→Zn7 (a++((l.map idB).flatten++r)) l.length a.length=Xa (l,a.length+((l.map idB).flatten).length)
 | [], a, r, _ => by simp [Zn7]
 | x :: l, a, r, h => by
  have q:=Zt7 (h x (by simp)) a ((l.map idB).flatten++r);have b:=ZmW l (a++idB x) r fun y c=>h y (by simp [c]);simp only [Xl,Xf] at q b;simp only [Xv,Xn,XD,Xl,Zn7,q,b,Xf,Ui]
def Zyj (n:Yc):List Int:=idB n.id++uv n.path.length++(n.path.map idB).flatten
def ZwM {n:Yc} (a:ZD n=Xb) (r:List Int):Zkj (Zyj n++r)=Zvy (Zyj n++r) n.id n.path (Zyj n).length:=by
 obtain ⟨d,i,e,j⟩:=Vt a;have f:(2:Nat)^62=4611686018427387904:=by decide
 have b:=Zt7 d [] (uv n.path.length++((n.path.map idB).flatten++r));have g:=Zmy (lim:=8) (v:=n.path.length) (idB n.id) ((n.path.map idB).flatten++r) e (by omega);have c:=ZmW n.path (idB n.id++uv n.path.length) r fun x h=>Zg8 a x h;simp only [XM,Xm,Nat.zero_add] at b;simp only [Xl,Xf,YG] at c;unfold Zkj Zyj;simp only [Xl,b,g,c,Xf,YG,Ui]
def ZBi {c:Cap} (h:YH c=Xb):ZcW c=Jv c:=by unfold ZcW;rw [P4 h]
def Zba {n:Yc} (a:ZD n=Xb):Zkj (Yq n)=Xa n:=by
 obtain ⟨d,b,f,g⟩:=Vt a;obtain ⟨c,d2⟩:=Zo4 b;rw [ZBi b] at c d2;have:=ZwM a (Jv n.cap);have e:Yq n=Zyj n++Jv n.cap:=by simp [Yq,Zyj]
 rw [e,this];unfold Zvy;rw [List.drop_left,c,P4 ⟨d2,a⟩]
def ZqJ {a:List Int} (d:Zq a):∀ (c off o:Nat) (l:List Id),off≤a.length→Zn7 a c off=Xa (l,o)→l.length=c∧off≤o∧o≤a.length∧(a.drop off).take (o-off)=(l.map idB).flatten
 | 0, off, o, l, ho, h => by
  simp only [Zn7,Xg,XG] at h;obtain ⟨rfl,rfl⟩:=h;exact ⟨rfl,Xr _,ho,by simp⟩
 | c + 1, off, o, l, ho, h => by
  simp only [Zn7] at h;split at h
  ·cases h
  ·rename_i i e f;obtain ⟨t,g,j⟩:=ZlP d ho f;split at h
   ·cases h
   ·rename_i k m n;simp only [Xg,XG] at h;obtain ⟨rfl,rfl⟩:=h;obtain ⟨p,q,r,s⟩:=ZqJ d c e m k g n;refine ⟨by simp [p],by omega,r,?_⟩;rw [WU (b:=e) (by omega) q,j,s];rfl
def Znj {a:List Int} (g:Zq a) {n:Yc} (h:Zkj a=Xa n):ZD n=Xb∧Yq n=a:=by
 unfold Zkj at h;split at h
 ·cases h
 ·rename_i i j q;obtain ⟨D,r,s⟩:=ZlP g (XT _) q;split at h
  ·cases h
  ·rename_i c d t;obtain ⟨E,G,u,v⟩:=ZeG g r t;split at h
   ·cases h
   ·rename_i p k w;obtain ⟨x,y,H,A⟩:=ZqJ g c d k p u w;unfold Zvy at h;split at h
    ·rename_i l;simp only [Xg] at h;subst h;have m:Zq (a.drop k):=fun z C=>g z (X4 C);have f:=(Vt l.2).2.1;have o:=ZxM m l.1;rw [ZBi f] at o;refine ⟨l.2,?_⟩;unfold Yq;dsimp only;rw [o,x,← s,← v,← A]
     have e:(a.drop 0).take (k-0)=(a.drop 0).take (j-0)++(a.drop j).take (d-j)++(a.drop d).take (k-d):=by
      rw [WU (b:=d) (by omega) y,WU (b:=j) (by omega) (by omega)]
     rw [← e,X7,Nat.sub_zero,List.take_append_drop]
    ·cases h
def ZnE (n:Yc) (c:ZD n=Xb):Zq (Yq n):=by
 have a:∀ i,Zq (idB i):=fun i=>V1 (V1 (Kz _) (Kz _)) (Kz _)
 have d:Zq (Jv n.cap):=by
  have:=ZiE n.cap
  rwa [ZBi (Vt c).2.1] at this
 refine V1 (V1 (V1 (a _) (Kz _)) ?_) d;intro z b;obtain ⟨l,e,b⟩:=U4.1 b;obtain ⟨i,_,rfl⟩:=XB.1 e;exact a i z b
def Zfy (a:List Int) (n:Nat):(Za a).drop n=Za (a.drop n):=by simp [Za,Uy]
def Zug {c:Int} (h:0≤c):P1 .rem .i64 c 128=c % 128:=UT h
def ZGb {i:Nat} (h:i≤4):(2:Nat)^(7*i)≤268435456:=by
 have:(2:Nat)^(7*i)≤2^28:=Tk (by decide) (by omega);have e:(2:Nat)^28=268435456:=by decide
 omega
def ZJj {c i:Nat} (d:c < 128) (h:i≤4):P1 .shl .i64 (c:Int) ((7*i:Nat):Int)=((c*2^(7*i):Nat):Int):=by
 have b:=ZGb h;have f:c*2^(7*i)≤127*268435456:=Tl (by omega) b
 have a:min (((7*i:Nat):Int)).toNat IntKind.i64.bits=7*i:=by
  have:IntKind.i64.bits=64:=rfl;omega
 have e:(c:Int)*2^(7*i)=((c*2^(7*i):Nat):Int):=by
  rw [Tw,TE];rfl
 show Xi .i64 ((c:Int)*2^(min (((7*i:Nat):Int)).toNat IntKind.i64.bits))=_;rw [a,e,YK (by omega) (by omega)]
def Zcn:∀ (a b:List Int),Zq a→Zq b→((Za a).map fun e=>(Zes e).getD 0)=((Za b).map fun e=>(Zes e).getD 0)→a=b
 | [], [], _, _, _ => rfl
 | [], _ :: _, _, _, h => by simp [Za] at h
 | _ :: _, [], _, _, h => by simp [Za] at h
 | x :: a, y :: b, ha, hb, h => by
  have d:UInt8.ofNat x.toNat=UInt8.ofNat y.toNat∧((Za a).map fun e=>(Zes e).getD 0)=((Za b).map fun e=>(Zes e).getD 0):=by
   simpa [Za,u8c,Zes] using h
  obtain ⟨x0,x1⟩:=ha x (by simp);obtain ⟨i,j⟩:=hb y (by simp);have f:=congrArg UInt8.toNat d.1;simp only [UInt8.toNat_ofNat'] at f;have g:x=y:=by omega
  rw [g,Zcn a b (fun z c=>ha z (by simp [c])) (fun z c=>hb z (by simp [c])) d.2]
def Zff (a:List Int) (i:Id) (p:List Id) (rest:List Int) (bad:Bool):Option Yc:=
 if bad=Xb∨rest.length < 10 then Xe else
 if VM (rest.take 10)=Xb∧ZD ⟨i,p,J4 (rest.take 10)⟩=Xb∧Yq ⟨i,p,J4 (rest.take 10)⟩=a then Xa ⟨i,p,J4 (rest.take 10)⟩ else Xe
def ZkM (n:Yc):Zq (Yp n):=by
 unfold Yp;split
 ·rename_i h;exact ZnE n h
 ·simp [Zq]
def ZnM {a rest:List Int} {i:Id} {p:List Id} {bad:Bool} {n:Yc} (h:Zff a i p rest bad=Xa n):ZD n=Xb∧Yq n=a:=by
 unfold Zff at h;split at h
 ·cases h
 ·split at h
  ·rename_i b;simp only [Xg] at h;subst h;exact b.2
  ·cases h
def PF {d:Type} (c:d→List Int) (G:d→Prop):Prop:=∀ a b r s,G a→G b→c a++r=c b++s→a=b∧r=s
def ZF5 {n:Nat} (h:n≤8):(2:Nat)^(64-7*n)=128*2^(64-7*(n+1)):=by
 rw [show (128:Nat)=2^7 by decide,← Nat.pow_add];congr 1;omega
def Zt4:∀ (k v n:Nat) (r:List Int),n+k=9→v < 2^(64-7*n)→v < 2^64→(0 < n→0 < v)→rd n (uv v++r)=Xa (v,uvN v)
 | 0, v, n, r, hn, hv, hv64, h0 => by
  have a:n=9:=by omega
  subst a;have b:v < 2:=hv;have:=h0 (by omega);rw [Y6 hv64,Zhe hv64,P4 (by omega),P4 (by omega),XV,rd,P3 (by omega),P3 (by omega),P4 (by omega)];simp
 | k + 1, v, n, r, hn, hv, hv64, h0 => by
  rw [Y6 hv64,Zhe hv64];by_cases hs:v < 128
  ·rw [P4 hs,P4 hs,XV,rd,P3 (by omega),P3 (by omega),P4 (by omega)];simp
  ·have c:v / 128 < 2^(64-7*(n+1)):=by
    rw [ZF5 (by omega)] at hv;exact UQ hv
   rw [P3 hs,P3 hs,XV,rd,P3 (by omega),P3 (by omega),P3 (by omega),Zt4 k (v / 128) (n+1) r (by omega) c (by omega) (fun _=>by omega)];simp only [Xg,XG,and_true];omega
def Zhz {v:Nat} (a:v < 2^64) (r:List Int):rd 0 (uv v++r)=Xa (v,uvN v):=Zt4 9 v 0 r rfl a a (fun h=>absurd h (Nat.lt_irrefl _))
def ZoT:PF uv (fun v=>v < 2^64):=by
 intro a b r s d e h;have c:=Zhz d r;rw [h,Zhz e s] at c;have:b=a:=by simp only [Xg,XG] at c;exact c.1
 subst this;exact ⟨rfl,List.append_cancel_left h⟩
def Ka:PF nB N63:=by
 intro a b r s c d h;obtain ⟨f,e⟩:=ZoT _ _ _ _ (show a.toNat < 2^64 by have:=c.2;omega) (show b.toNat < 2^64 by have:=d.2;omega) h;exact ⟨by have:=c.1;have:=d.1;omega,e⟩
def Zi4:BitVec.ofInt 64 18446744073709551615=BitVec.allOnes 64:=by decide
def ZkI {z:Int} (h:Rng z):sgV z=if z < 0 then -2*z-1 else 2*z:=by
 obtain ⟨g,i⟩:=h;have b:(2:Int)^63=9223372036854775808:=by decide
 have c:(2:Int)^64=18446744073709551616:=by decide
 have a:∀ x:Int,Xi .u64 x=x % 18446744073709551616:=fun x=>by
  simp only [Xi];have:IntKind.u64.signed=Xc:=rfl;simp [this,IntKind.bits]
 have d:P1 .shl .u64 (Xi .u64 z) 1=(2*z) % 18446744073709551616:=by
  show Xi .u64 (Xi .u64 z*2^(min ((1:Int)).toNat IntKind.u64.bits))=_;rw [show (min ((1:Int)).toNat IntKind.u64.bits)=1 from rfl,a,a];omega
 unfold sgV;rw [d];split
 ·rename_i j;have e:(2*z) % 18446744073709551616=2*z+18446744073709551616:=by omega
  rw [e,ZnY,Zi4,BitVec.allOnes_xor,BitVec.toNat_not,BitVec.toNat_ofInt]
  have f:((2*z+18446744073709551616) % ((2^64:Nat):Int)).toNat=(2*z+18446744073709551616).toNat:=by
   rw [show ((2^64:Nat):Int)=18446744073709551616 by decide,Int.emod_eq_of_lt (by omega) (by omega)]
  rw [f,show (2:Nat)^64=18446744073709551616 by decide];omega
 ·omega
def ZCg:PF sgB Rng:=by
 intro a b r s d e h;have i:=ZaS a;have j:=ZaS b;have f:(2:Int)^64=((2^64:Nat):Int):=by decide
 obtain ⟨k,g⟩:=ZoT _ _ _ _ (show (sgV a).toNat < 2^64 by omega) (show (sgV b).toNat < 2^64 by omega) h;have c:sgV a=sgV b:=by omega
 rw [ZkI d,ZkI e] at c;refine ⟨?_,g⟩;split at c<;>split at c<;>omega
def Zlz {b:Type} {c:b→List Int} {G:b→Prop} (e:PF c G):∀ (xs a:List b) (r s:List Int),xs.length=a.length→(∀ x∈xs,G x)→(∀ y∈a,G y)→(xs.map c).flatten++r=(a.map c).flatten++s→xs=a∧r=s
 | [], [], r, s, _, _, _, h => ⟨rfl, by simpa using h⟩
 | x :: xs, y :: a, r, s, hl, hx, hy, h => by
  simp only [Xn,XD,Xl] at h;obtain ⟨f,h⟩:=e _ _ _ _ (hx x (by simp)) (hy y (by simp)) h;obtain ⟨g,i⟩:=Zlz e xs a r s (by simpa using hl) (fun z d=>hx z (by simp [d])) (fun z d=>hy z (by simp [d])) h;exact ⟨by rw [f,g],i⟩
def KR {d:Type} {c:d→List Int} {G:d→Prop} (g:PF c G):PF (Zs c) (fun xs=>xs.length < 2^63∧∀ x∈xs,G x):=by
 intro a b r s e f h;simp only [Zs,Xl] at h;obtain ⟨i,h⟩:=Ka _ _ _ _ ⟨by omega,by have:=e.1;omega⟩ ⟨by omega,by have:=f.1;omega⟩ h;exact Zlz g a b r s (by omega) e.2 f.2 h
def Zoo:PF idB Id.Small:=by
 intro a b r s c d h;have e:(2:Int)^40=1099511627776:=by decide
 obtain ⟨j,k,l,m,n,o⟩:=c;obtain ⟨p,q,t,u,v,w⟩:=d;simp only [idB,Xl] at h;obtain ⟨x,h⟩:=ZoT _ _ _ _ (show a.core.toNat < 2^64 by omega) (show b.core.toNat < 2^64 by omega) h;obtain ⟨y,h⟩:=ZoT _ _ _ _ (show a.op.toNat < 2^64 by omega) (show b.op.toNat < 2^64 by omega) h;obtain ⟨z,h⟩:=ZoT _ _ _ _ (show a.part.toNat < 2^64 by omega) (show b.part.toNat < 2^64 by omega) h;refine ⟨?_,h⟩;have f:a.core=b.core:=by omega
 have g:a.op=b.op:=by omega
 have i:a.part=b.part:=by omega
 cases a;cases b
 simp only [Id.mk.injEq];exact ⟨f,g,i⟩
def ZxQ:PF ZeV (fun c=>∀ z∈Yu c,Rng z):=by
 intro a b r s e f h;obtain ⟨d,g⟩:=Zlz ZCg (Yu a) (Yu b) r s rfl e f h;refine ⟨?_,g⟩
 cases a;cases b
 simp only [Yu,List.cons.injEq,and_true] at d;simp only [Call.mk.injEq];exact d
def Yw (n:Yc):Prop:=ZD n=Xb∨n=Z5
def Zdt (n:Yc):(Yq n).length≠0:=by
 simp [Yq,Jv]
def Zgz:PF YA Yw:=by
 intro a b r s c d h;simp only [YA,Xl] at h;have j:=Wd a;have k:=Wd b;obtain ⟨l,h⟩:=Ka _ _ _ _ ⟨by omega,by omega⟩ ⟨by omega,by omega⟩ h;have g:(Yp a).length=(Yp b).length:=by omega
 obtain ⟨e,i⟩:=List.append_inj h g;refine ⟨?_,i⟩;have f:ZD Z5=Xc:=by decide
 rcases c with c | c<;>rcases d with d | d
 ·rw [Yp,Yp,P4 c,P4 d] at e;have:=Zba c;rw [e,Zba d] at this;exact (Ua this).symm
 ·rw [Yp,Yp,P4 c,d,P3 (by rw [f];decide)] at e;exact absurd (by rw [e];rfl) (Zdt a)
 ·rw [Yp,Yp,P4 d,c,P3 (by rw [f];decide)] at e;exact absurd (by rw [← e];rfl) (Zdt b)
 ·rw [c,d]
structure Zwn (r:Req):Prop where
 good:r.Good
 src:Yw r.src
def ZtK:PF Wz Zwn:=by
 intro a b r s c d h;simp only [Wz,Xl] at h;obtain ⟨e,h⟩:=Zoo _ _ _ _ c.good.id d.good.id h;obtain ⟨f,h⟩:=ZxQ _ _ _ _ c.good.call d.good.call h;obtain ⟨g,h⟩:=Ka _ _ _ _ ⟨c.good.reg0,c.good.reg1⟩ ⟨d.good.reg0,d.good.reg1⟩ h;obtain ⟨i,h⟩:=Ka _ _ _ _ ⟨c.good.wid0,c.good.wid1⟩ ⟨d.good.wid0,d.good.wid1⟩ h;obtain ⟨j,h⟩:=Zgz _ _ _ _ c.src d.src h;refine ⟨?_,h⟩
 cases a;cases b
 simp only [Req.mk.injEq];exact ⟨e,f,g,i,j⟩
def ZvC:PF YO (fun x=>Yw x.node∧N63 x.op∧x.lock.Small):=by
 intro a b r s c d h;simp only [YO,Xl] at h;obtain ⟨e,h⟩:=Zgz _ _ _ _ c.1 d.1 h;obtain ⟨f,h⟩:=Ka _ _ _ _ c.2.1 d.2.1 h;obtain ⟨g,h⟩:=Zoo _ _ _ _ c.2.2 d.2.2 h;refine ⟨?_,h⟩
 cases a;cases b
 simp only [YN.mk.injEq];exact ⟨e,f,g⟩
def Zxq:PF YJ (fun x=>N63 x.region∧x.op.Small):=by
 intro a b r s c d h;simp only [YJ,Xl] at h;obtain ⟨e,h⟩:=Ka _ _ _ _ c.1 d.1 h;obtain ⟨f,h⟩:=Zoo _ _ _ _ c.2 d.2 h;refine ⟨?_,h⟩
 cases a;cases b
 simp only [Zaq.mk.injEq];exact ⟨e,f⟩
def ZA8:PF WF (fun x=>N63 x.op∧N63 x.err):=by
 intro a b r s c d h;simp only [WF,Xl] at h;obtain ⟨e,h⟩:=Ka _ _ _ _ c.1 d.1 h;obtain ⟨f,h⟩:=Ka _ _ _ _ c.2 d.2 h;refine ⟨?_,h⟩
 cases a;cases b
 simp only [Ans.mk.injEq];exact ⟨e,f⟩
def ZAu:PF V8 (fun x=>N63 x.core∧N63 x.slot∧Yw x.node):=by
 intro a b r s c d h;simp only [V8,Xl] at h;obtain ⟨e,h⟩:=Ka _ _ _ _ c.1 d.1 h;obtain ⟨f,h⟩:=Ka _ _ _ _ c.2.1 d.2.1 h;obtain ⟨g,h⟩:=Zgz _ _ _ _ c.2.2 d.2.2 h;refine ⟨?_,h⟩
 cases a;cases b
 simp only [ZY.mk.injEq];exact ⟨e,f,g⟩
def Zvv:PF Wk (fun x=>N63 x.region∧N63 x.to):=by
 intro a b r s c d h;simp only [Wk,Xl] at h;obtain ⟨e,h⟩:=Ka _ _ _ _ c.1 d.1 h;obtain ⟨f,h⟩:=Ka _ _ _ _ c.2 d.2 h;refine ⟨?_,h⟩
 cases a;cases b
 simp only [ZeF.mk.injEq];exact ⟨e,f⟩
def ZJf:PF bB (fun _=>True):=by
 intro a b r s _ _ h;have c:N63 1:=⟨by decide,by decide⟩;have d:N63 0:=⟨by decide,by decide⟩
 cases a<;>cases b<;>simp only [bB,if_true,Xw,if_false] at h
 ·exact ⟨rfl,(Ka _ _ _ _ d d h).2⟩
 ·exact absurd (Ka _ _ _ _ d c h).1 (by decide)
 ·exact absurd (Ka _ _ _ _ c d h).1 (by decide)
 ·exact ⟨rfl,(Ka _ _ _ _ c c h).2⟩
structure ZeI (s:JD):Prop where
 good:s.Good
 slot:∀ x∈s.slots,Yw x.node
 req:∀ x∈s.pending,Yw x.src
 entry:∀ x∈s.entries,Yw x.node
def JY {n:Nat} (h:n≤2097152):n < 2^63:=by omega
def Zhb:PF YS ZeI:=by
 intro a b r s d e h;simp only [YS,Xl] at h;obtain ⟨f,h⟩:=KR ZvC _ _ _ _ ⟨JY d.good.slots,fun x c=>⟨d.slot x c,(d.good.slot x c).2⟩⟩ ⟨JY e.good.slots,fun x c=>⟨e.slot x c,(e.good.slot x c).2⟩⟩ h;obtain ⟨g,h⟩:=KR ZtK _ _ _ _ ⟨JY d.good.pending,fun x c=>⟨d.good.req x c,d.req x c⟩⟩ ⟨JY e.good.pending,fun x c=>⟨e.good.req x c,e.req x c⟩⟩ h;obtain ⟨i,h⟩:=KR Zxq _ _ _ _ ⟨JY d.good.marks,d.good.mark⟩ ⟨JY e.good.marks,e.good.mark⟩ h;obtain ⟨j,h⟩:=KR ZA8 _ _ _ _ ⟨JY d.good.answers,d.good.ans⟩ ⟨JY e.good.answers,e.good.ans⟩ h;obtain ⟨k,h⟩:=KR ZAu _ _ _ _ ⟨JY d.good.entries,fun x c=>⟨(d.good.entry x c).1,(d.good.entry x c).2.1,d.entry x c⟩⟩ ⟨JY e.good.entries,fun x c=>⟨(e.good.entry x c).1,(e.good.entry x c).2.1,e.entry x c⟩⟩ h;obtain ⟨l,h⟩:=KR Zoo _ _ _ _ ⟨JY d.good.commits,d.good.commit⟩ ⟨JY e.good.commits,e.good.commit⟩ h;refine ⟨?_,h⟩
 cases a;cases b
 simp only [JD.mk.injEq];exact ⟨f,g,i,j,k,l⟩
def Zly:PF Wn Vu.Good:=by
 intro a b r s c d h;simp only [Wn,Xl] at h;obtain ⟨e,h⟩:=Ka _ _ _ _ c.num d.num h;obtain ⟨f,h⟩:=KR Ka _ _ _ _ ⟨JY c.members,c.member⟩ ⟨JY d.members,d.member⟩ h;obtain ⟨g,h⟩:=KR Ka _ _ _ _ ⟨JY c.owners,c.owner⟩ ⟨JY d.owners,d.owner⟩ h;refine ⟨?_,h⟩
 cases a;cases b
 simp only [Vu.mk.injEq];exact ⟨e,f,g⟩
structure ZkU (r:Js):Prop where
 core:N63 r.core
 view:r.view.Good
 state:ZeI r.state
 next:r.next.Good
 proposal:ZeI r.proposal
def ZzO:PF ZiL ZkU:=by
 intro a b r s c d h;simp only [ZiL,Xl] at h;obtain ⟨e,h⟩:=Ka _ _ _ _ c.core d.core h;obtain ⟨f,h⟩:=Zly _ _ _ _ c.view d.view h;obtain ⟨g,h⟩:=Zhb _ _ _ _ c.state d.state h;obtain ⟨i,h⟩:=ZJf _ _ _ _ trivial trivial h;obtain ⟨j,h⟩:=Zly _ _ _ _ c.next d.next h;obtain ⟨k,h⟩:=Zhb _ _ _ _ c.proposal d.proposal h;refine ⟨?_,h⟩
 cases a;cases b
 simp only [Js.mk.injEq];exact ⟨e,f,g,i,j,k⟩
def eqF (a b:Msg):Nat→Prop
 | 0 => a.region = b.region
 | 1 => a.req = b.req
 | 2 => a.op = b.op
 | 3 => a.err = b.err
 | 4 => a.settled = b.settled
 | 5 => a.nodes = b.nodes
 | 6 => a.slot = b.slot
 | 7 => a.ids = b.ids
 | 8 => a.round = b.round
 | 9 => a.cores = b.cores
 | 10 => a.report = b.report
 | 11 => a.base = b.base
 | 12 => a.next = b.next
 | 13 => a.state = b.state
 | 14 => a.moves = b.moves
 | _ => True
def Zgx {a:Yc} (h:K0 a Z5=Xb):a=Z5:=by
 simp only [K0,Xj,P5] at h;obtain ⟨⟨e,f⟩,g⟩:=h;obtain ⟨i,p,c⟩:=a;obtain ⟨k,b,j,m,w,l,d⟩:=c;dsimp only at e f g;subst e g;obtain ⟨rfl,rfl,rfl,rfl,rfl,rfl,rfl⟩:=f;rfl
def ZhM {r:Req} (h:Kl r=Xb):Yw r.src:=by
 simp only [Kl,Xj] at h;have h:=h.2;split at h
 ·exact .inr (Zgx h)
 ·exact .inl h
def ZqD {s:YN} (h:WH s=Xb):Yw s.node:=by
 simp only [WH,Xj] at h;have h:=h.2;split at h
 ·rw [Xj] at h;exact .inr (Zgx h.1)
 ·rw [Xj] at h;exact .inl h.1
def We {s:JD} (h:Yg s=Xb) (c:s.Good):ZeI s:=by
 simp only [Yg,Xj,Xo] at h;obtain ⟨⟨⟨⟨⟨b,d⟩,g⟩,j⟩,e⟩,k⟩:=h;refine ⟨c,fun x a=>?_,fun x a=>ZhM (d.1 x a),fun x a=>?_⟩
 ·obtain ⟨i,f,rfl⟩:=List.getElem_of_mem a;simp only [KQ,Xj,Xo] at b;have:=(b.2 i (by rw [List.mem_range'_1];omega)).1;rw [Jz _ f] at this;exact ZqD this
 ·have:=e.1 x a;simp only [VR,Xj] at this;exact .inl this.2
def Ztu {a b:Msg} (c:a.Good) (d:b.Good) {f:Nat} (e:Zh a f=Xb) (g:Zh b f=Xb) {r s:List Int} (h:ZZ a f++r=ZZ b f++s):eqF a b f∧r=s:=by
 match f with
 | 0 => exact Ka _ _ _ _ c.region d.region h
 | 1 => exact ZtK _ _ _ _ ⟨c.req, ZhM e⟩ ⟨d.req, ZhM g⟩ h
 | 2 => exact Zoo _ _ _ _ c.op d.op h
 | 3 => exact Ka _ _ _ _ c.err d.err h
 | 4 => exact ZJf _ _ _ _ trivial trivial h
 | 5 =>
  simp only [Zh,Xj,Xo] at e g;exact KR Zgz _ _ _ _ ⟨JY c.nodesn,fun x i=>.inl (e.2 x i)⟩ ⟨JY d.nodesn,fun x i=>.inl (g.2 x i)⟩ h
 | 6 => exact Ka _ _ _ _ c.slot d.slot h
 | 7 => exact KR Zoo _ _ _ _ ⟨JY c.idsn, c.ids⟩ ⟨JY d.idsn, d.ids⟩ h
 | 8 => exact Ka _ _ _ _ c.round d.round h
 | 9 => exact KR Ka _ _ _ _ ⟨JY c.coresn, c.cores⟩ ⟨JY d.coresn, d.cores⟩ h
 | 10 =>
  simp only [Zh,Zcy,Xj] at e g;exact ZzO _ _ _ _ ⟨c.report.core,c.report.view,We e.1.1.2 c.report.state,c.report.next,We e.2 c.report.proposal⟩ ⟨d.report.core,d.report.view,We g.1.1.2 d.report.state,d.report.next,We g.2 d.report.proposal⟩ h
 | 11 => exact Ka _ _ _ _ c.base d.base h
 | 12 => exact Zly _ _ _ _ c.next d.next h
 | 13 => exact Zhb _ _ _ _ (We e c.state) (We g d.state) h
 | 14 => exact KR Zvv _ _ _ _ ⟨JY c.movesn, fun x i => c.moves x i⟩ ⟨JY d.movesn, fun x i => d.moves x i⟩ h
 | n + 15 => exact ⟨trivial, h⟩
def ZiA {a b:Msg} (d:a.Good) (e:b.Good):∀ (L:List Nat) (r s:List Int),(∀ f∈L,Zh a f=Xb)→(∀ f∈L,Zh b f=Xb)→(L.map (ZZ a)).flatten++r=(L.map (ZZ b)).flatten++s→(∀ f∈L,eqF a b f)∧r=s
 | [], r, s, _, _, h => ⟨fun f i => (by cases i), by simpa using h⟩
 | f :: L, r, s, ha, hb, h => by
  simp only [Xn,XD,Xl] at h;obtain ⟨j,h⟩:=Ztu d e (ha f (by simp)) (hb f (by simp)) h;obtain ⟨k,l⟩:=ZiA d e L r s (fun g c=>ha g (by simp [c])) (fun g c=>hb g (by simp [c])) h;refine ⟨fun g c=>?_,l⟩;rw [Xs] at c;rcases c with rfl | c
  ·exact j
  ·exact k g c
def KW {a:Type} {l:List a} (h:l.length=0):l = []:=Um h
def Zrh {r:Req} (h:Zrx r=Xb):r=Jr:=by
 simp only [Zrx,Xj,P5] at h;obtain ⟨⟨⟨⟨a,b⟩,d⟩,e⟩,f⟩:=h;obtain ⟨i,c,l,w,n⟩:=r;obtain ⟨m,o,p,q,s,t,u,v,x,y,g,j⟩:=c;dsimp only at a b d e f;have k:=Zgx f;subst a d e k;obtain ⟨rfl,rfl,rfl,rfl,rfl,rfl,rfl,rfl,rfl,rfl,rfl,rfl⟩:=b;rfl
def Zdp {v:Vu} (h:Zb2 v=Xb):v=ZW:=by
 simp only [Zb2,Xj,P5] at h;obtain ⟨n,m,o⟩:=v;dsimp only at h;obtain ⟨⟨a,b⟩,c⟩:=h;rw [a,KW b,KW c];rfl
def Zbr {s:JD} (h:VW s=Xb):s=Zk:=by
 simp only [VW,Xj,P5] at h;obtain ⟨a,b,c,d,e,f⟩:=s;dsimp only at h;obtain ⟨⟨⟨⟨⟨g,i⟩,j⟩,k⟩,l⟩,m⟩:=h;rw [KW g,KW i,KW j,KW k,KW l,KW m];rfl
def ZfZ {r:Js} (h:VO r=Xb):r=Zn:=by
 simp only [VO,Xj,P5,Xu] at h;obtain ⟨a,b,c,d,e,f⟩:=r;dsimp only at h;obtain ⟨⟨⟨⟨⟨g,i⟩,j⟩,k⟩,l⟩,m⟩:=h;rw [g,Zdp i,Zbr j,k,Zdp l,Zbr m];rfl
def ZuU {a b:Msg} {g:Nat} (c:zf a g=Xb) (d:zf b g=Xb):eqF a b g:=by
 match g with
 | 0 => simp only [zf, P5] at c d; show a.region = b.region; rw [c, d]
 | 1 => show a.req = b.req; rw [Zrh c, Zrh d]
 | 2 => simp only [zf, P5] at c d; show a.op = b.op; rw [c, d]
 | 3 => simp only [zf, P5] at c d; show a.err = b.err; rw [c, d]
 | 4 => simp only [zf, Xu] at c d; show a.settled = b.settled; rw [c, d]
 | 5 => simp only [zf, P5] at c d; show a.nodes = b.nodes; rw [KW c, KW d]
 | 6 => simp only [zf, P5] at c d; show a.slot = b.slot; rw [c, d]
 | 7 => simp only [zf, P5] at c d; show a.ids = b.ids; rw [KW c, KW d]
 | 8 => simp only [zf, P5] at c d; show a.round = b.round; rw [c, d]
 | 9 => simp only [zf, P5] at c d; show a.cores = b.cores; rw [KW c, KW d]
 | 10 => show a.report = b.report; rw [ZfZ c, ZfZ d]
 | 11 => simp only [zf, P5] at c d; show a.base = b.base; rw [c, d]
 | 12 => show a.next = b.next; rw [Zdp c, Zdp d]
 | 13 => show a.state = b.state; rw [Zbr c, Zbr d]
 | 14 => simp only [zf, P5] at c d; show a.moves = b.moves; rw [KW c, KW d]
 | n + 15 => exact trivial
def Zkp {a b:Msg} (j:a.kind=b.kind) (k:a.view=b.view) (l:a.frm=b.frm) (m:a.to=b.to) (h:∀ g,g < 15→eqF a b g):a=b:=by
 have n:a.region=b.region:=h 0 (by decide);have o:a.req=b.req:=h 1 (by decide);have p:a.op=b.op:=h 2 (by decide);have q:a.err=b.err:=h 3 (by decide);have r:a.settled=b.settled:=h 4 (by decide);have s:a.nodes=b.nodes:=h 5 (by decide);have t:a.slot=b.slot:=h 6 (by decide);have e7:a.ids=b.ids:=h 7 (by decide);have u:a.round=b.round:=h 8 (by decide);have e9:a.cores=b.cores:=h 9 (by decide);have c:a.report=b.report:=h 10 (by decide);have d:a.base=b.base:=h 11 (by decide);have e:a.next=b.next:=h 12 (by decide);have f:a.state=b.state:=h 13 (by decide);have i:a.moves=b.moves:=h 14 (by decide)
 cases a;cases b
 simp only [Msg.mk.injEq];exact ⟨j,k,l,m,u,n,t,p,q,r,o,e7,s,e9,i,d,e,f,c⟩
structure Zj6 (m:Msg):Prop where
 good:m.Good
 valid:Z1 m=Xb
def ZA2:PF ZeY Zj6:=by
 intro a b r s c d h;simp only [ZeY,Yk,Xl] at h;obtain ⟨j,h⟩:=Ka _ _ _ _ c.good.kind d.good.kind h;obtain ⟨n,h⟩:=Ka _ _ _ _ c.good.view d.good.view h;obtain ⟨o,h⟩:=Ka _ _ _ _ c.good.frm d.good.frm h;obtain ⟨p,h⟩:=Ka _ _ _ _ c.good.to d.good.to h;have i:=c.valid;have f:=d.valid;simp only [Z1,Xj,Xo] at i f;rw [← j] at h f;obtain ⟨q,t⟩:=ZiA c.good d.good _ _ _ i.2.1 f.2.1 h;refine ⟨Zkp j n o p fun g k=>?_,t⟩;by_cases hk:g∈kf a.kind.toNat
 ·exact q g hk
 ·have l:=i.2.2;have m:=f.2.2;simp only [rest,Xo,UC,XF] at l m;have e:¬ (kf a.kind.toNat).contains g=Xb:=fun h=>hk (UZ.1 h);exact ZuU ((l g k).resolve_left e) ((m g k).resolve_left e)
def Zsl {a b:List Int} (c:Zq a) (d:Zq b) (h:ByteArray.toList (bytesOf (Za a))=ByteArray.toList (bytesOf (Za b))):a=b:=by
 rw [ByteArray.toList_eq,ByteArray.toList_eq] at h;exact Zcn a b c d (by simpa [bytesOf] using h)
def Zv9:Ret (fun r=>r=Xb) ((g9).bind fun (r:Bool)=>Xa (r)):=Jb s9 (Zf rfl)
def StS.sized {s:JD} (h:StS s) (b:ZfM s):s.Sized:=by
 have c:=h.slots;have d:=h.pend;have e:=h.marks;have f:=h.answers;have g:=h.entries;have i:=h.commits;exact ⟨by omega,by omega,by omega,by omega,by omega,by omega,fun x a=>by have:=h.spath x a;omega,fun x a=>⟨by have:=h.psrc x a;omega,b x a⟩,fun x a=>by have:=h.epath x a;omega⟩
def VwG.sized {v:Vu} (h:VwG v):v.Sized:=⟨by have:=h.members;omega,by have:=h.owners;omega⟩
def MsS.sized {m:Msg} (h:MsS m) (a:ZpL m):m.Sized:=⟨by have:=h.req;omega,a.1,by have:=h.ids;omega,by have:=h.nodes;omega,fun x b=>by have:=h.node x b;omega,by have:=h.cores;omega,by have:=h.moves;omega,h.next.sized,h.state.sized a.2.1,⟨h.report.view.sized,h.report.state.sized a.2.2.1,h.report.next.sized,h.report.proposal.sized a.2.2.2⟩⟩
def StS.shrt {s:JD} (h:StS s):s.Short:=⟨by have:=h.slots;omega,by have:=h.pend;omega,by have:=h.marks;omega,by have:=h.answers;omega,by have:=h.entries;omega,by have:=h.commits;omega⟩
def MsS.shrt {m:Msg} (h:MsS m):m.Short:=⟨by have:=h.ids;omega,by have:=h.nodes;omega,by have:=h.cores;omega,by have:=h.moves;omega,by have:=h.next.members;omega,by have:=h.next.owners;omega,by have:=h.report.view.members;omega,by have:=h.report.view.owners;omega,by have:=h.report.next.members;omega,by have:=h.report.next.owners;omega,h.state.shrt,h.report.state.shrt,h.report.proposal.shrt⟩
def MsS.gm {m:Msg} (h:MsS m) (b:ZpL m) (a:Z1 m=Xb):Zj6 m:=⟨Zbu (h.sized b) h.shrt a,a⟩
def ZlI {x:AV} (h:Zap Tryz.prog 12 3 x):∃ z,x=I z:=by
 simp only [Zap,Tryz.underlying3] at h;obtain ⟨z,a,_⟩:=Zat h.2;exact ⟨z,by simpa using a⟩
def Zu1 {x:AV} (h:Zap Tryz.prog 12 5 x):∃ z,x = .val (.int .u8 z)∧0≤z∧z < 256:=by
 simp only [Zap,Tryz.underlying5] at h;have a:=h.2;simp only [TyZ,Tryz.underlying5] at a;obtain ⟨z,b,c⟩:=a;refine ⟨z,by simpa using b,?_⟩;have d:IntKind.u8.min=0:=by decide
 have a:IntKind.u8.max=255:=by decide
 simp [Lit.wf,d,a] at c;omega
def ZqV {x:AV} (h:Zap Tryz.prog 12 22 x):∃ l:List Int,x = .slice Xc 1 (Zd l)∧RL l∧l.length < 2^63:=by
 simp only [Zap,Tryz.underlying22] at h;have a:=h.2;rw [TyZ] at a;simp only [Tryz.underlying22,ZwN] at a;obtain ⟨xs,b,g,a,c⟩:=a;obtain ⟨l,rfl,d⟩:=ZbD (f:=WS) (p:=fun x=>Rng x) xs fun y e=>Zat (c y e);exact ⟨l,by simpa [Zd] using b,d,ZFy (by simpa using a)⟩
def Zui {d:Nat} {cs:List AV} (h:TyZ Tryz.prog (d+2) 84 cs):∃ s:Zxa,cs=Zck s:=by
 rw [TyZ] at h;simp only [Tryz.underlying84] at h;obtain ⟨x,rfl,y,l⟩:=h
 obtain ⟨m,n,o,p,q,r,t,u,v,w,rfl⟩:∃ m n o p q r t u v w,x = [m,n,o,p,q,r,t,u,v,w]:=by
  match x,y with
  | [m, n, o, p, q, r, t, u, v, w], _ => exact ⟨m, n, o, p, q, r, t, u, v, w, rfl⟩
 obtain ⟨a,rfl⟩:=ZqE (l 0 _ _ rfl rfl);obtain ⟨b,rfl,_⟩:=Zat (l 1 _ _ rfl rfl);obtain ⟨c,rfl,_⟩:=Zat (l 2 _ _ rfl rfl);obtain ⟨d,rfl,_⟩:=Zat (l 3 _ _ rfl rfl);obtain ⟨e,rfl,_⟩:=Zat (l 4 _ _ rfl rfl);obtain ⟨f,rfl,_⟩:=Zat (l 5 _ _ rfl rfl);obtain ⟨g,rfl,_⟩:=Zat (l 6 _ _ rfl rfl);obtain ⟨i,rfl,_⟩:=Zat (l 7 _ _ rfl rfl);obtain ⟨j,rfl,_⟩:=Zat (l 8 _ _ rfl rfl);obtain ⟨k,rfl⟩:=ZqE (l 9 _ _ rfl rfl);exact ⟨⟨a,b,c,d,e,f,g,i,j,k⟩,rfl⟩
def ZnB {x:AV} (h:Zap Tryz.prog 12 23 x):∃ l:List Zxa,x = .slice Xc 10 (l.map Zck)∧l.length < 2^63:=by
 simp only [Zap,Tryz.underlying23] at h;have b:=h.2;rw [TyZ] at b;simp only [Tryz.underlying23,ZyX] at b;obtain ⟨xs,c,_,d,e⟩:=b;obtain ⟨l,rfl,i⟩:=ZbD (f:=Zck) (p:=fun _=>True) xs fun y g=>(Zui (e y g)).elim fun a h=>⟨a,h,trivial⟩;exact ⟨l,by simpa using c,ZFy (by simpa using d)⟩
def ZJc {d:Type} (c:d→List Int) (G:d→Prop) (e:List Int) (bad:Bool) (v:d) (a:List Int) (b:Bool):Prop:=
 ∀ w rest,bad=Xc→G w→e=c w++rest→v=w∧a=rest∧b=Xc
structure WR {α:Type} (c:α→List Int) (G T:α→Prop) (bs:List Int) (off:Nat) (f:Bool) (v:α) (o:Nat) (f':Bool):Prop where
 le:o≤bs.length
 tot:T v
 post:ZJc c G (bs.drop off) f v (bs.drop o) f'
def WR.seq {b c:Type} {g:b→List Int} {G1 T1:b→Prop} {h:c→List Int} {G2 T2:c→Prop} {d:List Int} {off i j:Nat} {f k l:Bool} {m:b} {n:c} (o:WR g G1 T1 d off f m i k) (e:WR h G2 T2 d i k n j l) :
  WR (fun w:b×c=>g w.1++h w.2) (fun w=>G1 w.1∧G2 w.2) (fun w=>T1 w.1∧T2 w.2) d off f (m,n) j l:=by
 refine ⟨e.le,⟨o.tot,e.tot⟩,fun w rest q p a=>?_⟩;rw [Xl] at a;obtain ⟨r,s,t⟩:=o.post w.1 _ q p.1 a;obtain ⟨u,v,x⟩:=e.post w.2 _ t p.2 s;exact ⟨by rw [r,u],v,x⟩
def WR.map {b g:Type} {c:b→List Int} {G T:b→Prop} {c':g→List Int} {G' T':g→Prop} {i:List Int} {off o:Nat} {f f':Bool} {v:b} (e:b→g) (d:g→b) (h:WR c G T i off f v o f') (j:T v→T' (e v)) (k:∀ w,G' w→G (d w)∧c' w=c (d w)∧e (d w)=w) :
  WR c' G' T' i off f (e v) o f':=by
 refine ⟨h.le,j h.tot,fun w rest l m a=>?_⟩;obtain ⟨n,p,q⟩:=k w m;rw [p] at a;obtain ⟨r,s,t⟩:=h.post _ _ l n a;exact ⟨by rw [r,q],s,t⟩
def ZdT (v:Nat):(uv v).length=uvN v:=YG v
def Zex {a c rest:List Int} {off k:Nat} (h:a.drop off=c++rest) (b:k=c.length):a.drop (off+k)=rest:=by
 rw [← UU,h,b,List.drop_left]
def w63 {b:List Int} (q:Zq b) (t:b.length≤1000000) (off:Nat) (s:off≤b.length) (f:Bool):Ret (fun r=>∃ (v:Int) (o:Nat) (f':Bool),r=(v,Za b,(o:Int),f')∧WR nB N63 N63 b off f v o f') (g63 (Za b) off f):=by
 have l:N63 0:=⟨by decide,by decide⟩
 have bad:∀ f':Bool,(f=Xb∨∀ w,N63 w→∀ rest,b.drop off≠nB w++rest)→WR nB N63 N63 b off f 0 off f':=fun f' h=>⟨s,l,fun w rest j u a=>by
  rcases h with h | h
  ·rw [h] at j;cases j
  ·exact absurd a (h w u rest)⟩
 rw [ZCl];refine Zo (fun h=>Zf ⟨0,off,f,rfl,bad f (.inl h)⟩) fun j=>?_;have m:Zq (b.drop off):=fun z y=>q z (X4 y);have h:=ZFN q t off s
 have d:∀ w,N63 w→∀ rest,b.drop off=nB w++rest→rd 0 (b.drop off)=Xa (w.toNat,uvN w.toNat):=fun w g rest c=>by
  rw [c];exact Zhz (by have:=g.2;omega) rest
 cases c:rd 0 (b.drop off) with
 | none =>
  rw [c] at h;obtain ⟨e,A,h⟩:=h;refine Jb h ?_;refine Zc (P4 (by simp only [CQ];exact A)) (Zf ⟨0,off,Xb,rfl,bad Xb (.inr fun w g rest h=>?_)⟩);have:=d w g rest h;rw [c] at this;cases this
 | some p =>
  obtain ⟨w,k⟩:=p;rw [c] at h;dsimp only at h;obtain ⟨E,_,C,_⟩:=Zos _ 0 _ _ m (by omega) c;rw [Un] at C;refine Jb h (Zc (P3 (by simp only [CQ];exact fun h=>h rfl)) ?_);refine Zo (fun n=>Zf ⟨0,off,Xb,rfl,bad Xb (.inr fun x i rest h=>?_)⟩) fun n=>?_
  ·simp only [CQ] at n;have:=d x i rest h;rw [c] at this;have e:=(U0 (Ua this)).1;have:=i.2;omega
  ·simp only [CQ] at n;have g:Xi .i64 (w:Int)=(w:Int):=YK (by omega) (by omega);refine Zf ⟨(w:Int),off+k,f,by show (Xi .i64 (w:Int),Za b,((off+k:Nat):Int),f)=_;rw [g],⟨by omega,⟨by omega,by omega⟩,fun x rest _ i a=>?_⟩⟩;have:=d x i rest a;rw [c] at this;obtain ⟨G,D⟩:=U0 (Ua this);refine ⟨by have:=i.1;omega,Zex a (by rw [D];exact (ZdT _).symm),by simpa using j⟩
def ZpE {w:Nat} (b:w < 2^64):P1 .shr .u64 (w:Int) 1=((w / 2:Nat):Int):=by
 have a:min ((1:Int)).toNat IntKind.u64.bits=1:=by decide
 simp only [P1,a];rw [T5 _ (by decide)];omega
def Zuo {w:Nat} (c:w < 2^64):P1 .and .u64 (w:Int) 1=((w % 2:Nat):Int):=by
 have e:(BitVec.ofInt 64 (w:Int)&&& BitVec.ofInt 64 1).toNat=w % 2:=by
  rw [BitVec.toNat_and,BitVec.toNat_ofInt,BitVec.toNat_ofInt];have a:(((w:Int)) % ((2^64:Nat):Int)).toNat=w:=by rw [show ((2^64:Nat):Int)=18446744073709551616 by decide];omega
  have b:(((1:Int)) % ((2^64:Nat):Int)).toNat=1:=by decide
  rw [a,b,Nat.and_one_is_mod]
 show Xi .u64 (((BitVec.ofInt 64 (w:Int)&&& BitVec.ofInt 64 1).toNat:Nat):Int)=_;rw [e,Jc (by omega) (by omega)]
def svV (w:Nat):Int:=if w % 2=1 then -((w / 2:Nat):Int)-1 else ((w / 2:Nat):Int)
def Zk4 {w:Nat} (a:w < 2^64):Rng (svV w):=by
 unfold svV Rng;split<;>constructor<;>omega
def Zt1 {z:Int} (h:Rng z):svV (sgV z).toNat=z:=by
 have a:=ZkI h;unfold svV;rw [a];split<;>split<;>omega
def ZoI {b:List Int} (t:Zq b) (D:b.length≤1000000) (off:Nat) (u:off≤b.length) (f:Bool):Ret (fun r=>∃ (v:Int) (o:Nat) (f':Bool),r=(v,Za b,(o:Int),f')∧WR sgB Rng Rng b off f v o f') (ZmM (Za b) off f):=by
 have l:Rng 0:=⟨by decide,by decide⟩
 have bad:∀ f':Bool,(f=Xb∨∀ w,Rng w→∀ rest,b.drop off≠sgB w++rest)→WR sgB Rng Rng b off f 0 off f':=fun f' h=>⟨u,l,fun w rest j E a=>by
  rcases h with h | h
  ·rw [h] at j;cases j
  ·exact absurd a (h w E rest)⟩
 rw [ZxH];refine Zo (fun h=>Zf ⟨0,off,f,rfl,bad f (.inl h)⟩) fun j=>?_;have m:Zq (b.drop off):=fun z G=>t z (X4 G);have h:=ZFN t D off u
 have g:∀ w,Rng w→∀ rest,b.drop off=sgB w++rest→rd 0 (b.drop off)=Xa ((sgV w).toNat,uvN (sgV w).toNat):=fun w y rest d=>by
  rw [d];exact Zhz (by have:=(ZaS w).2;have:=(ZaS w).1;have:(2:Int)^64=((2^64:Nat):Int):=(by decide);omega) rest
 rw [ZwR]
 cases d:rd 0 (b.drop off) with
 | none =>
  rw [d] at h;obtain ⟨e,A,h⟩:=h;rw [h,Xd];refine Jb (P4 (by simp only [CQ];exact A)) ?_;refine Zc (P4 (by simp only [CQ];exact A)) (Zf ⟨0,off,Xb,rfl,bad Xb (.inr fun w y rest h=>?_)⟩);have:=g w y rest h;rw [d] at this;cases this
 | some p =>
  obtain ⟨w,k⟩:=p;rw [d] at h;dsimp only at h;obtain ⟨H,_,J,_⟩:=Zos _ 0 _ _ m (by omega) d;have c:w < 2^64:=H;rw [Un] at J;rw [h,Xd]
  have i:(if (P0 .neq (0:Int) 0)=Xb then Xa ((0:Int),(0:Int),(0:Int)) else Zy ((0:Int)≤1)<|if (P0 .eql (P1 .and .u64 (w:Int) 1) 1)=Xb then Xa ((P1 .sub .i64 (P1 .sub .i64 0 (Xi .i64 (P1 .shr .u64 (w:Int) 1))) 1),(((off+k:Nat):Int)),(0:Int)) else Xa ((Xi .i64 (P1 .shr .u64 (w:Int) 1)),(((off+k:Nat):Int)),(0:Int)))=Xa (svV w,((off+k:Nat):Int),0):=by
   have n:Xi .i64 ((w / 2:Nat):Int)=((w / 2:Nat):Int):=YK (by omega) (by omega);rw [P3 (by decide),Zg (by decide),Zuo c,ZpE c,n];unfold svV;refine Jf (fun q=>?_) fun q=>?_
   ·simp only [CQ] at q;have s:P1 .sub .i64 0 ((w / 2:Nat):Int) = -((w / 2:Nat):Int):=by rw [Ze0 (by omega) (by omega)];omega
    rw [P4 (by omega),s,Ze0 (by omega) (by omega)]
   ·simp only [CQ] at q;rw [P3 (by omega)]
  refine Jb i (Zc (P3 (by simp only [CQ];exact fun h=>h rfl)) ?_);refine Zf ⟨svV w,off+k,f,rfl,⟨by omega,Zk4 c,fun x rest _ C a=>?_⟩⟩;have:=g x C rest a;rw [d] at this;obtain ⟨n,s⟩:=U0 (Ua this);exact ⟨by rw [n,Zt1 C],Zex a (by rw [s];exact (ZdT _).symm),by simpa using j⟩
structure CR (bs:List Int) (off:Nat) (f:Bool) (v:Nat) (o:Nat) (f':Bool):Prop where
 le:o≤bs.length
 tot:o+v≤bs.length
 post:∀ (n:Nat) rest,f=Xc→n < 2^63→bs.drop off=nB (n:Int)++rest→n≤rest.length→v=n∧bs.drop o=rest∧f'=Xc
def ZrB {c:List Int} (k:Zq c) (l:c.length≤1000000) (off:Nat) (m:off≤c.length) (f:Bool):Ret (fun r=>∃ (v o:Nat) (f':Bool),r=((v:Int),Za c,(o:Int),f')∧CR c off f v o f') (ZoC (Za c) off f):=by
 rw [ZuA];refine Zb (w63 k l off m f) fun r ⟨v,o,p,q,h⟩=>?_;subst q;have d:=h.le;dsimp only;rw [ZB,Ze0 (by omega) (by omega)];have s:=h.tot;refine Zo (fun g=>Zf ⟨0,o,Xb,rfl,⟨d,by omega,fun n rest i t a j=>?_⟩⟩) fun g=>Zf ⟨v.toNat,o,p,by rw [Int.toNat_of_nonneg s.1],⟨d,?_,fun n rest i t a j=>?_⟩⟩
 ·simp only [CQ] at g;obtain ⟨e,r,_⟩:=h.post n rest i ⟨by omega,by omega⟩ a;have:=congrArg Xh r;rw [Un] at this;omega
 ·simp only [CQ] at g;omega
 ·obtain ⟨e,r,b⟩:=h.post n rest i ⟨by omega,by omega⟩ a;exact ⟨by omega,r,b⟩
def Jn {a b:LL} {k:Nat} (h:a.length+b.length≤2000000) (c:k≤400):Z6 a b k:=by
 unfold Z6 Yh;have:(a.length+b.length)*(k+1)≤2000000*401:=Tl h (by omega);omega
structure LR {α:Type} (c:α→List Int) (G T:α→Prop) (bs:List Int) (n off:Nat) (f:Bool) (vs:List α) (o:Nat) (f':Bool):Prop where
 le:o≤bs.length
 len:vs.length=n
 tot:∀ v∈vs,T v
 post:∀ ws rest,f=Xc→ws.length=n→(∀ w∈ws,G w)→bs.drop off=(ws.map c).flatten++rest→vs=ws∧bs.drop o=rest∧f'=Xc
def LR.snoc {g:Type} {c:g→List Int} {G T:g→Prop} {j:List Int} {n off o m:Nat} {f p q:Bool} {vs:List g} {v:g} (h:LR c G T j n off f vs o p) (k:WR c G T j o p v m q):LR c G T j (n+1) off f (vs++[v]) m q:=by
 refine ⟨k.le,by simp [h.len],fun x d=>?_,fun i rest s l r a=>?_⟩
 ·rw [Xz,Uh] at d;rcases d with d | rfl
  ·exact h.tot x d
  ·exact k.tot
 ·obtain ⟨b,w,rfl⟩:∃ b w,i=b++[w]:=by
   have e:i≠[]:=fun t=>by rw [t] at l;cases l
   exact ⟨i.dropLast,i.getLast e,(List.dropLast_concat_getLast e).symm⟩
  rw [List.map_append,List.flatten_append,Xl] at a;simp only [Xn,XI,XD,Uf,XY] at a;obtain ⟨u,y,z⟩:=h.post b _ s (by simpa using l) (fun x d=>r x (by simp [d])) a;obtain ⟨A,C,D⟩:=k.post w rest z (r w (by simp)) y;exact ⟨by rw [u,A],C,D⟩
def Zhi {m γ:Type} {P:γ→Prop} {c:m→List Int} {G T:m→Prop} {cell:m→List AV} {b:List Int} (C:b.length≤1000000) {F:Nat→LL→Int→Bool→LL→Int→Option γ} {n off:Nat} {f:Bool} (t:off≤b.length) (D:n≤b.length)
  (g:∀ k (o:Nat) e (d:LL) (i:Nat),o≤b.length→i < n→d.length=i→(∀ v (p:Nat) q,WR c G T b o e v p q→Ret P (F k (Za b) (p:Int) q (d++(E0++[cell v])) ((i+1:Nat):Int)))→Ret P (F (k+1) (Za b) (o:Int) e d (i:Int)))
  (j:∀ k vs (o:Nat) e,LR c G T b n off f vs o e→Ret P (F (k+1) (Za b) (o:Int) e (vs.map cell) (n:Int))):Ret P (F Zr (Za b) (off:Int) f E0 0):=by
 refine K3 (F:=fun k (s:Nat×Bool×LL) z=>F k (Za b) (s.1:Int) s.2.1 s.2.2 z) (n:=n) (fun i s=>∃ vs:List m,s.2.2=vs.map cell∧LR c G T b i off f vs s.1 s.2.1) (by omega) (fun k i s u r ih=>?_) (fun k s r=>?_) (off,f,E0) ⟨[],rfl,⟨t,rfl,by simp,fun w rest x y _ l=>?_⟩⟩
 ·obtain ⟨o,e,d⟩:=s;obtain ⟨vs,a,h⟩:=r;dsimp only at a h;subst a;refine g k o e _ i h.le u (by rw [Xk];exact h.len) fun v p q A=>?_;have:=ih (p,q,vs.map cell++(E0++[cell v])) ⟨vs++[v],by simp,h.snoc A⟩;exact this
 ·obtain ⟨o,e,d⟩:=s;obtain ⟨vs,a,h⟩:=r;dsimp only at a h;subst a;exact j k vs o e h
 ·have:w = []:=Um y;subst this;exact ⟨rfl,by simpa using l,x⟩
def Zkk {b:Type} {c:b→List Int} {G:b→Prop} (d:∀ w,G w→1≤(c w).length):∀ a:List b,(∀ w∈a,G w)→a.length≤((a.map c).flatten).length
 | [], _ => by simp
 | w :: a, h => by
  have f:=d w (h w (by simp));have g:=Zkk d a fun x e=>h x (by simp [e]);simp only [Xn,XD,Xf,Xv];omega
def TL {a:Type} (T:a→Prop) (n:Nat) (l:List a):Prop:=l.length≤n∧∀ x∈l,T x
def GL {a:Type} (G:a→Prop) (l:List a):Prop:=l.length < 2^63∧∀ x∈l,G x
def CR.list {e:Type} {c:e→List Int} {G T:e→Prop} {b:List Int} {n off o i:Nat} {f j k:Bool} {vs:List e} (m:∀ w,G w→1≤(c w).length) (l:CR b off f n o j) (d:LR c G T b n o j vs i k):WR (Zs c) (GL G) (TL T b.length) b off f vs i k:=by
 refine ⟨d.le,⟨by rw [d.len];have:=l.tot;omega,d.tot⟩,fun g rest p h a=>?_⟩;rw [Zs,Xl] at a;have q:=Zkk m g h.2;obtain ⟨r,s,t⟩:=l.post g.length _ p h.1 a (by rw [Xf];omega);exact d.post g rest t r.symm h.2 s
def VK (z:Int):1≤(nB z).length:=by
 show 1≤(uv z.toNat).length;rw [ZdT,uvN];omega
def Zqb (i:Id):1≤(idB i).length:=by
 have:=VK i.core;show 1≤(uv i.core.toNat++uv i.op.toNat++uv i.part.toNat).length;have h:1≤(uv i.core.toNat).length:=this;simp only [Xf];omega
def ZH9 {a:List Int} (p:Zq a) (e:a.length≤1000000) (off:Nat) (u:off≤a.length) (f:Bool):Ret (fun r=>∃ (v:List Int) (o:Nat) (f':Bool),r=(Zd v,Za a,(o:Int),f')∧WR (Zs nB) (GL N63) (TL N63 a.length) a off f v o f') (ZBL (Za a) off f):=by
 rw [Zwr];refine Zb (ZrB p e off u f) fun r ⟨n,o,q,g,h⟩=>?_;subst g;have x:=h.tot;refine Zhi (c:=nB) (G:=N63) (T:=N63) (cell:=WS) e (F:=fun k b o f d i=>Zmv k b o f d (n:Int) i) h.le (XX (Nat.le_add_left ..) h.tot) (fun k j q d i l s t ih=>?_) (fun k vs j m y=>?_)
 ·refine Zc (ZhJ ..) (Zc (P4 (Z4 s)) ?_);refine Zb (w63 p e j l q) fun r ⟨v,z,m,g,A⟩=>?_;subst g;refine Zl (Jn (by simp;omega) (by omega)) ?_;dsimp only;rw [ZS s (by omega)];exact ih v z m A
 ·refine Zc (ZhJ ..) (Zc (P3 (Z3 (Xr _))) (Zf ⟨vs,j,m,rfl,h.list (fun w _=>VK w) y⟩))
def T3 (i:Id):Prop:=N63 i.core∧N63 i.op∧N63 i.part
def ZxD {i:Id} (h:i.Small):N63 i.core∧N63 i.op∧N63 i.part:=by
 have a:(2:Int)^40=1099511627776:=by decide
 obtain ⟨b,e,c,f,d,g⟩:=h;exact ⟨⟨b,by omega⟩,⟨c,by omega⟩,⟨d,by omega⟩⟩
def ZAv {d:List Int} (g:Zq d) (h:d.length≤1000000) (off:Nat) (l:off≤d.length) (f:Bool):Ret (fun r=>∃ (v:Id) (o:Nat) (f':Bool),r=(v.core,v.op,v.part,Za d,(o:Int),f')∧WR idB Id.Small T3 d off f v o f') (ZvV (Za d) off f):=by
 rw [Zxo];refine Zb (w63 g h off l f) fun r ⟨a,m,n,e,j⟩=>?_;subst e;refine Zb (w63 g h m j.le n) fun r ⟨b,q,s,e,k⟩=>?_;subst e;refine Zb (w63 g h q k.le s) fun r ⟨c,t,u,e,x⟩=>?_;subst e;exact Zf ⟨⟨a,b,c⟩,t,u,rfl,(j.seq (k.seq x)).map (fun p=>(⟨p.1,p.2.1,p.2.2⟩:Id)) (fun i=>(i.core,i.op,i.part)) id fun w y=>⟨ZxD y,by simp [idB,nB],rfl⟩⟩
def ZIs {a:List Int} (p:Zq a) (e:a.length≤1000000) (off:Nat) (u:off≤a.length) (f:Bool):Ret (fun r=>∃ (v:List Id) (o:Nat) (f':Bool),r=(Ze v,Za a,(o:Int),f')∧WR (Zs idB) (GL Id.Small) (TL T3 a.length) a off f v o f') (ZDI (Za a) off f):=by
 rw [ZuC];refine Zb (ZrB p e off u f) fun r ⟨n,o,q,g,h⟩=>?_;subst g;have x:=h.tot;refine Zhi (c:=idB) (G:=Id.Small) (T:=T3) (cell:=idc) e (F:=fun k b o f d i=>Zmw k b o f d (n:Int) i) h.le (XX (Nat.le_add_left ..) h.tot) (fun k j q d i l s t ih=>?_) (fun k vs j m y=>?_)
 ·refine Zc (ZjB ..) (Zc (P4 (Z4 s)) ?_);refine Zb (ZAv p e j l q) fun r ⟨v,z,m,g,A⟩=>?_;subst g;refine Zl (Jn (by simp;omega) (by omega)) ?_;dsimp only;rw [ZS s (by omega)];exact ih v z m A
 ·refine Zc (ZjB ..) (Zc (P3 (Z3 (Xr _))) (Zf ⟨vs,j,m,rfl,h.list (fun w _=>Zqb w) y⟩))
def ZKY {d:List Int} (l:Zq d) (j:d.length≤1000000) (off:Nat) (D:off≤d.length) (f:Bool):Ret (fun r=>∃ (v:List ZeF) (o:Nat) (f':Bool),r=(v.map YE,Za d,(o:Int),f')∧WR (Zs Wk) (GL fun x=>N63 x.region∧N63 x.to) (TL (fun x=>N63 x.region∧N63 x.to) d.length) d off f v o f') (ZEq (Za d) off f):=by
 rw [Zwg];refine Zb (ZrB l j off D f) fun r ⟨n,o,y,e,h⟩=>?_;subst e;have E:=h.tot;refine Zhi (c:=Wk) (G:=fun x=>N63 x.region∧N63 x.to) (T:=fun x=>N63 x.region∧N63 x.to) (cell:=YE) j (F:=fun k b o f g i=>Znh k b o f g (n:Int) i) h.le (XX (Nat.le_add_left ..) h.tot) (fun k q y g i s z A ih=>?_) (fun k vs q t H=>?_)
 ·refine Zc (ZiW ..) (Zc (P4 (Z4 z)) ?_);refine Zb (w63 l j q s y) fun r ⟨a,J,t,e,C⟩=>?_;subst e;refine Zb (w63 l j J C.le t) fun r ⟨b,L,M,e,u⟩=>?_;subst e;refine Zl (Jn (by simp;omega) (by omega)) ?_;dsimp only;rw [ZS z (by omega)];exact ih ⟨a,b⟩ L M (WR.map (c':=Wk) (G':=fun x=>N63 x.region∧N63 x.to) (T':=fun x=>N63 x.region∧N63 x.to) (fun p=>(⟨p.1,p.2⟩:ZeF)) (fun m=>(m.region,m.to)) (C.seq u) (fun h=>h) fun w N=>⟨N,rfl,rfl⟩)
 ·refine Zc (ZiW ..) (Zc (P3 (Z3 (Xr _))) (Zf ⟨vs,q,t,rfl,h.list (fun w _=>by have:=VK w.region;simp only [Wk,Xf];omega) H⟩))
def ZIA {c:List Int} (k:Zq c) (l:c.length≤1000000) (off:Nat) (m:off≤c.length) (f:Bool):Ret (fun r=>∃ (v:Bool) (o:Nat) (f':Bool),r=(v,Za c,(o:Int),f')∧WR bB (fun _=>True) (fun _=>True) c off f v o f') (ZDO (Za c) off f):=by
 rw [Zxk];refine Zb (w63 k l off m f) fun r ⟨v,o,i,n,h⟩=>?_;subst n
 have g:∀ (w:Bool) rest,f=Xc→c.drop off=bB w++rest→v=(if w=Xb then 1 else 0)∧c.drop o=rest∧i=Xc:=by
  intro w rest d a
  cases w
  ·exact h.post 0 rest d ⟨by decide,by decide⟩ a
  ·exact h.post 1 rest d ⟨by decide,by decide⟩ a
 refine Zo (fun j=>Zf ⟨_,o,Xb,rfl,⟨h.le,trivial,fun w rest d _ a=>?_⟩⟩) fun j=>Zf ⟨_,o,i,rfl,⟨h.le,trivial,fun w rest d _ a=>?_⟩⟩
 ·simp only [CQ] at j;obtain ⟨e,_,_⟩:=g w rest d a;exfalso;split at e<;>omega
 ·obtain ⟨e,r,b⟩:=g w rest d a;refine ⟨?_,r,b⟩;rw [e]
  cases w<;>rfl
def Zqt {a:List Int} (b:Zq a) (o n:Nat):Zq ((a.drop o).take n):=fun z c=>b z (X4 (XS c))
def ZqT (a:List Int) (o n:Nat):Uw o (List.take (o+n) (Za a))=Za ((a.drop o).take n):=by
 simp only [Za,← Uq,← Uy];congr 1;rw [List.drop_take];congr 1;omega
def TN (n:Yc):Prop:=n.path.length≤8
def Zg6 {a:List Int} (b:Zq a) {n:Yc} (h:Zkj a=Xa n):n.path.length≤8:=(Vt (Znj b h).1).2.2.1
def ZFX (n:Yc) (a:List Int) (o:Nat) (f:Bool):=(n.id.core,n.id.op,n.id.part,Ze n.path,n.cap.kind,n.cap.base,n.cap.bits,n.cap.rights,n.cap.width,n.cap.level,n.cap.device,Za a,(o:Int),f)
def ZDn {c:List Int} (y:Zq c) (C:c.length≤1000000) (off:Nat) (D:off≤c.length) (f:Bool):Ret (fun r=>∃ (v:Yc) (o:Nat) (f':Bool),r=ZFX v c o f'∧WR YA Yw TN c off f v o f') (Zyf (Za c) off f):=by
 rw [ZwW];refine Zb (ZrB y C off D f) fun r ⟨n,o,l,E,h⟩=>?_;subst E;have m:=h.le;have z:=h.tot
 have j:∀ (w:Yc) rest,f=Xc→c.drop off=YA w++rest→n=(Yp w).length∧c.drop o=Yp w++rest∧l=Xc:=fun w rest d a=>by
  rw [YA,Xl] at a;have:=Wd w;exact h.post _ _ d (by omega) a (by rw [Xf];omega)
 have t:ZD Z5=Xc:=by decide
 have k:TN Z5:=by simp [TN,Z5]
 refine Zo (fun A=>Zf ⟨Z5,o,l,rfl,⟨m,k,fun w rest d g a=>?_⟩⟩) fun A=>?_
 ·obtain ⟨_,_,b⟩:=j w rest d a;have p:l=Xb:=A;rw [b] at p;cases p
 refine Zo (fun s=>Zf ⟨Z5,o,l,rfl,⟨m,k,fun w rest d g a=>?_⟩⟩) fun s=>?_
 ·simp only [CQ] at s;obtain ⟨e,r,b⟩:=j w rest d a;have u:(Yp w).length=0:=by omega
  rcases g with hw | hw
  ·rw [Yp,P4 hw] at u;exact absurd u (Zdt w)
  ·rw [Um u] at r;exact ⟨hw.symm,r,b⟩
 simp only [CQ] at s;dsimp only;have G:P1 .add .i64 (o:Int) (n:Int)=((o+n:Nat):Int):=by rw [JE (by omega) (by omega)];omega
 rw [G];refine Zl (by omega) (Zl (by omega) (Zl (by rw [ZB];omega) ?_));rw [Uk,Uk,ZqT];have q:=Zqt y o n;refine Jb (ZJ8 q (by simp;omega)) ?_
 have i:∀ (w:Yc) rest,f=Xc→Yw w→c.drop off=YA w++rest→Zkj ((c.drop o).take n)=Xa w∧c.drop (o+n)=rest∧l=Xc:=fun w rest d g a=>by
  obtain ⟨e,r,b⟩:=j w rest d a;rcases g with hw | hw
  ·refine ⟨?_,Zex r e,b⟩;rw [r,e,List.take_left,Yp,P4 hw];exact Zba hw
  ·rw [hw,Yp,P3 (by rw [t];decide)] at e;exact absurd (by rw [e];rfl) s
 cases hd:Zkj ((c.drop o).take n) with
 | none =>
  refine Zc (P4 (by simp [Y4,P0])) (Zf ⟨Z5,o+n,Xb,rfl,⟨by omega,k,fun w rest d g a=>?_⟩⟩);obtain ⟨e,_,_⟩:=i w rest d g a;rw [hd] at e;cases e
 | some x =>
  refine Zc (P3 (by simp [Y4,P0])) (Zf ⟨x,o+n,l,rfl,⟨by omega,Zg6 q hd,fun w rest d g a=>?_⟩⟩);obtain ⟨e,r,b⟩:=i w rest d g a;rw [hd] at e;exact ⟨Ua e,r,b⟩
def TC (c:Call):Prop:=∀ z∈Yu c,Rng z
def ZFB (c:Call) (a:List Int) (o:Nat) (f:Bool):=(c.kind,c.slot,c.dest,c.core,c.mask,c.object,c.bits,c.level,c.offset,c.count,c.index,c.addr,Za a,(o:Int),f)
def ZjX (c:Call):TC c↔(Rng c.kind∧Rng c.slot∧Rng c.dest∧Rng c.core∧Rng c.mask∧Rng c.object∧Rng c.bits∧Rng c.level∧Rng c.offset∧Rng c.count∧Rng c.index∧Rng c.addr):=by
 simp [TC,Yu]
def ZJL {e:List Int} (b:Zq e) (d:e.length≤1000000) (off:Nat) (G:off≤e.length) (f:Bool):Ret (fun r=>∃ (v:Call) (o:Nat) (f':Bool),r=ZFB v e o f'∧WR ZeV TC TC e off f v o f') (ZGB (Za e) off f):=by
 rw [Zw5];refine Zb (ZoI b d off G f) fun r ⟨H,J,L,a,s⟩=>?_;subst a;refine Zb (ZoI b d J s.le L) fun r ⟨M,N,O,a,t⟩=>?_;subst a;refine Zb (ZoI b d N t.le O) fun r ⟨Q,R,S,a,u⟩=>?_;subst a;refine Zb (ZoI b d R u.le S) fun r ⟨T,U,W,a,x⟩=>?_;subst a;refine Zb (ZoI b d U x.le W) fun r ⟨X,Y,Z,a,y⟩=>?_;subst a;refine Zb (ZoI b d Y y.le Z) fun r ⟨v5,o5,f5,a,z⟩=>?_;subst a;refine Zb (ZoI b d o5 z.le f5) fun r ⟨v6,o6,f6,a,A⟩=>?_;subst a;refine Zb (ZoI b d o6 A.le f6) fun r ⟨v7,o7,f7,a,C⟩=>?_;subst a;refine Zb (ZoI b d o7 C.le f7) fun r ⟨v8,o8,f8,a,D⟩=>?_;subst a;refine Zb (ZoI b d o8 D.le f8) fun r ⟨v9,o9,f9,a,E⟩=>?_;subst a;refine Zb (ZoI b d o9 E.le f9) fun r ⟨i,j,k,a,g⟩=>?_;subst a;refine Zb (ZoI b d j g.le k) fun r ⟨l,m,n,a,q⟩=>?_;subst a
 exact Zf ⟨⟨H,M,Q,T,X,v5,v6,v7,v8,v9,i,l⟩,m,n,rfl,(s.seq (t.seq (u.seq (x.seq (y.seq (z.seq (A.seq (C.seq (D.seq (E.seq (g.seq q))))))))))).map
  (fun p=>(⟨p.1,p.2.1,p.2.2.1,p.2.2.2.1,(d4 p).1,(d4 p).2.1,(d6 p).1,(d6 p).2.1,(d8 p).1,(d8 p).2.1,(df p).1,p.2.2.2.2.2.2.2.2.2.2.2⟩:Call))
  (fun c=>(c.kind,c.slot,c.dest,c.core,c.mask,c.object,c.bits,c.level,c.offset,c.count,c.index,c.addr)) (fun h=>(ZjX _).2 h) fun w hw=>⟨(ZjX w).1 hw,by simp [ZeV,Yu],rfl⟩⟩
def TR (r:Req):Prop:=TC r.call∧TN r.src
def ZKt (r:Req) (a:List Int) (o:Nat) (f:Bool):=(r.id.core,r.id.op,r.id.part,r.call.kind,r.call.slot,r.call.dest,r.call.core,r.call.mask,r.call.object,r.call.bits,r.call.level,r.call.offset,r.call.count,r.call.index,r.call.addr,r.region,r.width,r.src.id.core,r.src.id.op,r.src.id.part,Ze r.src.path,r.src.cap.kind,r.src.cap.base,r.src.cap.bits,r.src.cap.rights,r.src.cap.width,r.src.cap.level,r.src.cap.device,Za a,(o:Int),f)
def ZI8 {g:List Int} (j:Zq g) (k:g.length≤1000000) (off:Nat) (t:off≤g.length) (f:Bool):Ret (fun r=>∃ (v:Req) (o:Nat) (f':Bool),r=ZKt v g o f'∧WR Wz Zwn TR g off f v o f') (ZEh (Za g) off f):=by
 rw [Zuk];refine Zb (ZAv j k off t f) fun r ⟨i,u,x,d,l⟩=>?_;subst d;refine Zb (ZJL j k u l.le x) fun r ⟨c,y,z,d,m⟩=>?_;subst d;refine Zb (w63 j k y m.le z) fun r ⟨a,A,C,d,q⟩=>?_;subst d;refine Zb (w63 j k A q.le C) fun r ⟨b,D,E,d,s⟩=>?_;subst d;refine Zb (ZDn j k D s.le E) fun r ⟨n,G,H,d,J⟩=>?_;subst d
 exact Zf ⟨⟨i,c,a,b,n⟩,G,H,rfl,(l.seq (m.seq (q.seq (s.seq J)))).map (fun p=>(⟨p.1,p.2.1,p.2.2.1,p.2.2.2.1,p.2.2.2.2⟩:Req)) (fun r=>(r.id,r.call,r.region,r.width,r.src)) (fun h=>⟨h.2.1,h.2.2.2.2⟩)
  fun w e=>⟨⟨e.good.id,e.good.call,⟨e.good.reg0,e.good.reg1⟩,⟨e.good.wid0,e.good.wid1⟩,e.src⟩,by simp [Wz],rfl⟩⟩
def ZKj {a:List Int} (q:Zq a) (e:a.length≤1000000) (off:Nat) (u:off≤a.length) (f:Bool):Ret (fun r=>∃ (v:List Yc) (o:Nat) (f':Bool),r=(v.map YM,Za a,(o:Int),f')∧WR (Zs YA) (GL Yw) (TL TN a.length) a off f v o f') (ZEp (Za a) off f):=by
 rw [ZwZ];refine Zb (ZrB q e off u f) fun r ⟨n,o,g,j,h⟩=>?_;subst j;have x:=h.tot;refine Zhi (n:=n) (f:=g) (c:=YA) (G:=Yw) (T:=TN) (cell:=YM) e (F:=fun k b o f d i=>ZmB k b o f d (n:Int) i) h.le (by omega) (fun k l g d i m s t ih=>?_) (fun k vs l p y=>?_)
 ·refine Zc (ZiG ..) (Zc (P4 (Z4 s)) ?_);refine Zb (ZDn q e l m g) fun r ⟨v,z,p,j,A⟩=>?_;subst j;refine Zl (Jn (by simp;omega) (by omega)) ?_;rw [ZS s (by omega)];exact ih v z p A
 ·refine Zc (ZiG ..) (Zc (P3 (Z3 (Xr _))) (Zf ⟨vs,l,p,rfl,h.list (fun w _=>by have:=VK ((Yp w).length:Int);simp only [YA,Xf];omega) y⟩))
def TV (n:Nat) (v:Vu):Prop:=v.members.length≤n∧v.owners.length≤n
def ZGY {b:List Int} (g:Zq b) (j:b.length≤1000000) (off:Nat) (m:off≤b.length) (f:Bool):Ret (fun r=>∃ (v:Vu) (o:Nat) (f':Bool),r=(v.number,Zd v.members,Zd v.owners,Za b,(o:Int),f')∧WR Wn Vu.Good (TV b.length) b off f v o f') (Zzv (Za b) off f):=by
 rw [ZvK];refine Zb (w63 g j off m f) fun r ⟨i,n,q,d,k⟩=>?_;subst d;refine Zb (ZH9 g j n k.le q) fun r ⟨c,s,t,d,l⟩=>?_;subst d;refine Zb (ZH9 g j s l.le t) fun r ⟨a,u,x,d,y⟩=>?_;subst d
 exact Zf ⟨⟨i,c,a⟩,u,x,rfl,(k.seq (l.seq y)).map (fun p=>(⟨p.1,p.2.1,p.2.2⟩:Vu)) (fun r=>(r.number,r.members,r.owners)) (fun h=>⟨h.2.1.1,h.2.2.1⟩)
  fun w e=>⟨⟨e.num,⟨JY e.members,e.member⟩,JY e.owners,e.owner⟩,by simp [Wn],rfl⟩⟩
structure TS (n:Nat) (s:JD):Prop where
 slots:s.slots.length≤n
 slot:∀ x∈s.slots,TN x.node
 pending:s.pending.length≤n
 req:∀ x∈s.pending,TR x
 marks:s.marks.length≤n
 answers:s.answers.length≤n
 entries:s.entries.length≤n
 entry:∀ x∈s.entries,TN x.node
 commits:s.commits.length≤n
def ZCs (s:JD) (a:List Int) (o:Nat) (f:Bool):=(s.slots.map Zv,s.pending.map Jq,s.marks.map Zz,s.answers.map JB,s.entries.map Zi,Ze s.commits,Za a,(o:Int),f)
def GSl (x:YN):Prop:=Yw x.node∧N63 x.op∧x.lock.Small
def GMk (x:Zaq):Prop:=N63 x.region∧x.op.Small
def GAn (x:Ans):Prop:=N63 x.op∧N63 x.err
def GEn (x:ZY):Prop:=N63 x.core∧N63 x.slot∧Yw x.node
def StP (a:List Int) (off:Nat) (f:Bool) (r:LL×LL×LL×LL×LL×LL×LL×Int×Bool):Prop:=∃ (v:JD) (o:Nat) (f':Bool),r=ZCs v a o f'∧WR YS ZeI (TS a.length) a off f v o f'
def Zuy {b:List Int} {off d e g h i j:Nat} {f k l m n o q:Bool} {r:List YN} {t:List Req} {u:List Zaq} {v:List Ans} {y:List ZY} {z:List Id}
  (E:WR (Zs YO) (GL GSl) (TL (fun x=>TN x.node) b.length) b off f r d k) (G:WR (Zs Wz) (GL Zwn) (TL TR b.length) b d k t e l) (H:WR (Zs YJ) (GL GMk) (TL (fun _=>True) b.length) b e l u g m)
  (J:WR (Zs WF) (GL GAn) (TL (fun _=>True) b.length) b g m v h n) (L:WR (Zs V8) (GL GEn) (TL (fun x=>TN x.node) b.length) b h n y i o) (M:WR (Zs idB) (GL Id.Small) (TL T3 b.length) b i o z j q) :
  WR YS ZeI (TS b.length) b off f (⟨r,t,u,v,y,z⟩:JD) j q:=
 WR.map (c':=YS) (G':=ZeI) (T':=TS b.length) (fun p=>(⟨p.1,p.2.1,p.2.2.1,p.2.2.2.1,(d4 p).1,p.2.2.2.2.2⟩:JD)) (fun s=>(s.slots,s.pending,s.marks,s.answers,s.entries,s.commits)) (E.seq (G.seq (H.seq (J.seq (L.seq M)))))
  (fun ⟨A,C,N,O,D,Q⟩=>⟨A.1,A.2,C.1,C.2,N.1,O.1,D.1,D.2,Q.1⟩)
  fun w a=>⟨⟨⟨JY a.good.slots,fun x c=>⟨a.slot x c,(a.good.slot x c).2⟩⟩,⟨JY a.good.pending,fun x c=>⟨a.good.req x c,a.req x c⟩⟩,⟨JY a.good.marks,a.good.mark⟩,⟨JY a.good.answers,a.good.ans⟩,⟨JY a.good.entries,fun x c=>⟨(a.good.entry x c).1,(a.good.entry x c).2.1,a.entry x c⟩⟩,JY a.good.commits,a.good.commit⟩,rfl,rfl⟩
def WI (n:Yc):1≤(YA n).length:=by have:=VK ((Yp n).length:Int);simp only [YA,Xf];omega
def ZAe {d:List Int} (q:Zq d) (g:d.length≤1000000) (off:Nat) (f:Bool) (J L M N O Q:LL) (t:List YN) (R:Nat) (S:Bool) (e0:WR (Zs YO) (GL GSl) (TL (fun x=>TN x.node) d.length) d off f t R S) (u:List Req) (U:Nat) (W:Bool) (e1:WR (Zs Wz) (GL Zwn) (TL TR d.length) d R S u U W) (v:List Zaq) (X:Nat) (Y:Bool) (e2:WR (Zs YJ) (GL GMk) (TL (fun _=>True) d.length) d U W v X Y) (y:List Ans) (Z:Nat) (q3:Bool) (e3:WR (Zs WF) (GL GAn) (TL (fun _=>True) d.length) d X Y y Z q3) {n o:Nat} {j:Bool} (h:CR d Z q3 n o j):Ret (StP d off f) (ZjN Zr (Za d) (o:Int) j J L M N O Q (t.map Zv) (u.map Jq) (v.map Zz) (y.map JB) E0 E0 (n:Int) 0):=by
 have ab:=h.tot;refine Zhi (n:=n) (f:=j) (c:=V8) (G:=GEn) (T:=(fun x=>TN x.node)) (cell:=Zi) g (F:=fun k b o f l i=>ZjN k b o f J L M N O Q (t.map Zv) (u.map Jq) (v.map Zz) (y.map JB) l E0 (n:Int) i) h.le (by omega) (fun k A j l i C hi aa ih=>?_) (fun k vs A D h2=>?_)
 ·refine Zc (Zi3 ..) (Zc (P4 (Z4 hi)) ?_);refine Zb (w63 q g A C j) fun r ⟨a,E,D,e,ha⟩=>?_;subst e;refine Zb (w63 q g E ha.le D) fun r ⟨b,o3,H,e,m⟩=>?_;subst e;refine Zb (ZDn q g o3 m.le H) fun r ⟨c,o4,f4,e,hc⟩=>?_;subst e;refine Zl (Jn (by simp;omega) (by omega)) ?_;rw [ZS hi (by omega)];exact ih ⟨a,b,c⟩ o4 f4 (WR.map (c':=V8) (G':=GEn) (T':=fun x=>TN x.node) (fun p=>(⟨p.1,p.2.1,p.2.2⟩:ZY)) (fun s=>(s.core,s.slot,s.node)) (ha.seq (m.seq hc)) (fun h=>h.2.2) fun w z=>⟨z,by simp [V8],rfl⟩)
 ·refine Zc (Zi3 ..) (Zc (P3 (Z3 (Xr _))) ?_);have z:=h.list (fun w _=>by have:=VK w.core;simp only [V8,Xf];omega) h2;refine Zb (ZIs q g A z.le D) fun r ⟨co,E,H,e,h3⟩=>?_;subst e;exact Zf ⟨⟨t,u,v,y,vs,co⟩,E,H,rfl,Zuy e0 e1 e2 e3 z h3⟩
def ZzB {d:List Int} (m:Zq d) (e:d.length≤1000000) (off:Nat) (f:Bool) (A C D E H J:LL) (q:List YN) (L:Nat) (M:Bool) (e0:WR (Zs YO) (GL GSl) (TL (fun x=>TN x.node) d.length) d off f q L M) (t:List Req) (N:Nat) (O:Bool) (e1:WR (Zs Wz) (GL Zwn) (TL TR d.length) d L M t N O) (u:List Zaq) (Q:Nat) (R:Bool) (e2:WR (Zs YJ) (GL GMk) (TL (fun _=>True) d.length) d N O u Q R) {n o:Nat} {g:Bool} (h:CR d Q R n o g):Ret (StP d off f) (ZhY Zr (Za d) (o:Int) g A C D E H J (q.map Zv) (t.map Jq) (u.map Zz) E0 E0 E0 (n:Int) 0):=by
 have aa:=h.tot;refine Zhi (n:=n) (f:=g) (c:=WF) (G:=GAn) (T:=(fun _=>True)) (cell:=JB) e (F:=fun k b o f j i=>ZhY k b o f A C D E H J (q.map Zv) (t.map Jq) (u.map Zz) j E0 E0 (n:Int) i) h.le (by omega) (fun k v g j i S W X ih=>?_) (fun k vs v y h2=>?_)
 ·refine Zc (ZhH ..) (Zc (P4 (Z4 W)) ?_);refine Zb (w63 m e v S g) fun r ⟨a,Y,y,l,Z⟩=>?_;subst l;refine Zb (w63 m e Y Z.le y) fun r ⟨b,o3,f3,l,U⟩=>?_;subst l;refine Zl (Jn (by simp;omega) (by omega)) ?_;rw [ZS W (by omega)];exact ih ⟨a,b⟩ o3 f3 (WR.map (c':=WF) (G':=GAn) (T':=fun _=>True) (fun p=>(⟨p.1,p.2⟩:Ans)) (fun s=>(s.op,s.err)) (Z.seq U) (fun _=>trivial) fun w z=>⟨z,rfl,rfl⟩)
 ·refine Zc (ZhH ..) (Zc (P3 (Z3 (Xr _))) ?_);have z:=h.list (fun w _=>by have:=VK w.op;simp only [WF,Xf];omega) h2;refine Zb (ZrB m e v z.le y) fun r ⟨n2,Y,f3,l,h3⟩=>?_;subst l;exact ZAe m e off f A C D E H J q L M e0 t N O e1 u Q R e2 vs v y z h3
def ZzY {d:List Int} (m:Zq d) (e:d.length≤1000000) (off:Nat) (f:Bool) (z A C D E H:LL) (q:List YN) (J:Nat) (L:Bool) (Y:WR (Zs YO) (GL GSl) (TL (fun x=>TN x.node) d.length) d off f q J L) (t:List Req) (M:Nat) (N:Bool) (Z:WR (Zs Wz) (GL Zwn) (TL TR d.length) d J L t M N) {n o:Nat} {g:Bool} (h:CR d M N n o g):Ret (StP d off f) (ZjW Zr (Za d) (o:Int) g z A C D E H (q.map Zv) (t.map Jq) E0 E0 E0 E0 (n:Int) 0):=by
 have aa:=h.tot;refine Zhi (n:=n) (f:=g) (c:=YJ) (G:=GMk) (T:=(fun _=>True)) (cell:=Zz) e (F:=fun k b o f j i=>ZjW k b o f z A C D E H (q.map Zv) (t.map Jq) j E0 E0 E0 (n:Int) i) h.le (by omega) (fun k u g j i O R S ih=>?_) (fun k vs u v h2=>?_)
 ·refine Zc (Zjx ..) (Zc (P4 (Z4 R)) ?_);refine Zb (w63 m e u O g) fun r ⟨a,U,v,l,W⟩=>?_;subst l;refine Zb (ZAv m e U W.le v) fun r ⟨b,o3,X,l,Q⟩=>?_;subst l;refine Zl (Jn (by simp;omega) (by omega)) ?_;rw [ZS R (by omega)];exact ih ⟨a,b⟩ o3 X (WR.map (c':=YJ) (G':=GMk) (T':=fun _=>True) (fun p=>(⟨p.1,p.2⟩:Zaq)) (fun s=>(s.region,s.op)) (W.seq Q) (fun _=>trivial) fun w y=>⟨y,rfl,rfl⟩)
 ·refine Zc (Zjx ..) (Zc (P3 (Z3 (Xr _))) ?_);have y:=h.list (fun w _=>by have:=VK w.region;simp only [YJ,Xf];omega) h2;refine Zb (ZrB m e u y.le v) fun r ⟨n2,U,X,l,h3⟩=>?_;subst l;exact ZzB m e off f z A C D E H q J L Y t M N Z vs u v y h3
def Zzx {d:List Int} (q:Zq d) (j:d.length≤1000000) (off:Nat) (f:Bool) (s t u v y z:LL) (l:List YN) (A:Nat) (C:Bool) (N:WR (Zs YO) (GL GSl) (TL (fun x=>TN x.node) d.length) d off f l A C) {n o:Nat} {e:Bool} (h:CR d A C n o e):Ret (StP d off f) (Zii Zr (Za d) (o:Int) e s t u v y z (l.map Zv) E0 E0 E0 E0 E0 (n:Int) 0):=by
 have O:=h.tot;refine Zhi (n:=n) (f:=e) (c:=Wz) (G:=Zwn) (T:=TR) (cell:=Jq) j (F:=fun k b o f g i=>Zii k b o f s t u v y z (l.map Zv) g E0 E0 E0 E0 (n:Int) i) h.le (by omega) (fun k m e g i D H J ih=>?_) (fun k vs m p Q=>?_)
 ·refine Zc (Ziq ..) (Zc (P4 (Z4 H)) ?_);refine Zb (ZI8 q j m D e) fun r ⟨a,L,p,E,R⟩=>?_;subst E;refine Zl (Jn (by simp;omega) (by omega)) ?_;rw [ZS H (by omega)];exact ih a L p R
 ·refine Zc (Ziq ..) (Zc (P3 (Z3 (Xr _))) ?_);have M:=h.list (fun w _=>by have:=WI w.src;simp only [Wz,Xf];omega) Q;refine Zb (ZrB q j m M.le p) fun r ⟨U,L,W,E,S⟩=>?_;subst E;exact ZzY q j off f s t u v y z l A C N vs m p M S
def ZBJ {g:List Int} (j:Zq g) (e:g.length≤1000000) (off:Nat) (f:Bool) (y z A C D E:LL) {n o:Nat} {l:Bool} (h:CR g off f n o l):Ret (StP g off f) (ZhW Zr (Za g) (o:Int) l y z A C D E E0 E0 E0 E0 E0 E0 (n:Int) 0):=by
 have Q:=h.tot;refine Zhi (n:=n) (f:=l) (c:=YO) (G:=GSl) (T:=(fun x=>TN x.node)) (cell:=Zv) e (F:=fun k b o f m i=>ZhW k b o f y z A C D E m E0 E0 E0 E0 E0 (n:Int) i) h.le (by omega) (fun k t l m i H J L ih=>?_) (fun k vs t u R=>?_)
 ·refine Zc (ZhX ..) (Zc (P4 (Z4 J)) ?_);refine Zb (ZDn j e t H l) fun r ⟨a,M,u,d,N⟩=>?_;subst d;refine Zb (w63 j e M N.le u) fun r ⟨b,S,O,d,q⟩=>?_;subst d;refine Zb (ZAv j e S q.le O) fun r ⟨c,U,W,d,X⟩=>?_;subst d;refine Zl (Jn (by simp;omega) (by omega)) ?_;rw [ZS J (by omega)];exact ih ⟨a,b,c⟩ U W (WR.map (c':=YO) (G':=GSl) (T':=fun x=>TN x.node) (fun p=>(⟨p.1,p.2.1,p.2.2⟩:YN)) (fun s=>(s.node,s.op,s.lock)) (N.seq (q.seq X)) (fun h=>h.1) fun w v=>⟨v,by simp [YO],rfl⟩)
 ·refine Zc (ZhX ..) (Zc (P3 (Z3 (Xr _))) ?_);have v:=h.list (fun w _=>by have:=WI w.node;simp only [YO,Xf];omega) R;refine Zb (ZrB j e t v.le u) fun r ⟨Z,M,O,d,Y⟩=>?_;subst d;exact Zzx j e off f y z A C D E  vs t u v Y
def ZFv {a:List Int} (b:Zq a) (c:a.length≤1000000) (off:Nat) (d:off≤a.length) (f:Bool):Ret (StP a off f) (ZBS (Za a) off f):=by
 rw [Zun];refine Zb (ZrB b c off d f) fun r ⟨n,o,g,e,h⟩=>?_;subst e;exact ZBJ b c off f _ _ _ _ _ _ h
structure TP (n:Nat) (r:Js):Prop where
 view:TV n r.view
 state:TS n r.state
 next:TV n r.next
 proposal:TS n r.proposal
def ZJN (r:Js) (a:List Int) (o:Nat) (f:Bool):=(r.core,r.view.number,Zd r.view.members,Zd r.view.owners,r.state.slots.map Zv,r.state.pending.map Jq,r.state.marks.map Zz,r.state.answers.map JB,r.state.entries.map Zi,Ze r.state.commits,r.ready,r.next.number,Zd r.next.members,Zd r.next.owners,r.proposal.slots.map Zv,r.proposal.pending.map Jq,r.proposal.marks.map Zz,r.proposal.answers.map JB,r.proposal.entries.map Zi,Ze r.proposal.commits,Za a,(o:Int),f)
def ZJP {d:List Int} (e:Zq d) (g:d.length≤1000000) (off:Nat) (n:off≤d.length) (f:Bool):Ret (fun r=>∃ (v:Js) (o:Nat) (f':Bool),r=ZJN v d o f'∧WR ZiL ZkU (TP d.length) d off f v o f') (ZHZ (Za d) off f):=by
 rw [Zw7];refine Zb (w63 e g off n f) fun r ⟨c,q,t,a,i⟩=>?_;subst a;refine Zb (ZGY e g q i.le t) fun r ⟨v,u,x,a,j⟩=>?_;subst a;refine Zb (ZFv e g u j.le x) fun r ⟨s,y,z,a,k⟩=>?_;subst a;refine Zb (ZIA e g y k.le z) fun r ⟨b,A,C,a,l⟩=>?_;subst a;refine Zb (ZGY e g A l.le C) fun r ⟨D,E,G,a,m⟩=>?_;subst a;refine Zb (ZFv e g E m.le G) fun r ⟨H,J,L,a,M⟩=>?_;subst a
 exact Zf ⟨⟨c,v,s,b,D,H⟩,J,L,rfl,WR.map (c':=ZiL) (G':=ZkU) (T':=TP d.length) (fun p=>(⟨p.1,p.2.1,p.2.2.1,p.2.2.2.1,(d4 p).1,p.2.2.2.2.2⟩:Js)) (fun r=>(r.core,r.view,r.state,r.ready,r.next,r.proposal)) (i.seq (j.seq (k.seq (l.seq (m.seq M)))))
  (fun ⟨_,N,O,_,Q,R⟩=>⟨N,O,Q,R⟩) fun w h=>⟨⟨h.core,h.view,h.state,trivial,h.next,h.proposal⟩,rfl,rfl⟩⟩
structure TM (n:Nat) (m:Msg):Prop where
 req:TR m.req
 nodes:TL TN n m.nodes
 ids:m.ids.length≤n
 cores:m.cores.length≤n
 moves:m.moves.length≤n
 next:TV n m.next
 state:TS n m.state
 report:TP n m.report
def Zzg (m:Msg) (a:List Int) (o:Nat) (f:Bool):Qt1:=(Za a,(o:Int),f,m.kind,m.view,m.frm,m.to,m.round,m.region,m.slot,m.op.core,m.op.op,m.op.part,m.err,m.settled,m.req.id.core,m.req.id.op,m.req.id.part,m.req.call.kind,m.req.call.slot,m.req.call.dest,m.req.call.core,m.req.call.mask,m.req.call.object,m.req.call.bits,m.req.call.level,m.req.call.offset,m.req.call.count,m.req.call.index,m.req.call.addr,m.req.region,m.req.width,m.req.src.id.core,m.req.src.id.op,m.req.src.id.part,(Ze m.req.src.path),m.req.src.cap.kind,m.req.src.cap.base,m.req.src.cap.bits,m.req.src.cap.rights,m.req.src.cap.width,m.req.src.cap.level,m.req.src.cap.device,(Ze m.ids),(m.nodes.map YM),(Zd m.cores),(m.moves.map YE),m.base,m.next.number,(Zd m.next.members),(Zd m.next.owners),(m.state.slots.map Zv),(m.state.pending.map Jq),(m.state.marks.map Zz),(m.state.answers.map JB),(m.state.entries.map Zi),(Ze m.state.commits),m.report.core,m.report.view.number,(Zd m.report.view.members),(Zd m.report.view.owners),(m.report.state.slots.map Zv),(m.report.state.pending.map Jq),(m.report.state.marks.map Zz),(m.report.state.answers.map JB),(m.report.state.entries.map Zi),(Ze m.report.state.commits),m.report.ready,m.report.next.number,(Zd m.report.next.members),(Zd m.report.next.owners),(m.report.proposal.slots.map Zv),(m.report.proposal.pending.map Jq),(m.report.proposal.marks.map Zz),(m.report.proposal.answers.map JB),(m.report.proposal.entries.map Zi),(Ze m.report.proposal.commits))
structure FR (bs:List Int) (m:Msg) (off:Nat) (f:Bool) (k:Nat) (m':Msg) (o:Nat) (f':Bool):Prop where
 le:o≤bs.length
 tm:TM bs.length m'
 hd:m'.kind=m.kind∧m'.view=m.view∧m'.frm=m.frm∧m'.to=m.to
 oth:∀ g,g < 15→g≠k→eqF m' m g
 post:∀ w rest,f=Xc→w.Good→Zh w k=Xb→bs.drop off=ZZ w k++rest→eqF m' w k∧bs.drop o=rest∧f'=Xc
def WR.fr {j:Type} {c:j→List Int} {G T:j→Prop} {l:List Int} {off o:Nat} {f f':Bool} {v:j} (h:WR c G T l off f v o f') {m a:Msg} {k:Nat} (i:Msg→j) (p:TM l.length a) (q:a.kind=m.kind∧a.view=m.view∧a.frm=m.frm∧a.to=m.to) (n:∀ g,g < 15→g≠k→eqF a m g)
  (s:∀ w:Msg,w.Good→Zh w k=Xb→G (i w)∧ZZ w k=c (i w)) (t:∀ w:Msg,v=i w→eqF a w k):FR l m off f k a o f':=by
 refine ⟨h.le,p,q,n,fun w rest u x y d=>?_⟩;obtain ⟨z,A⟩:=s w x y;rw [A] at d;obtain ⟨e,r,b⟩:=h.post _ _ u z d;exact ⟨t w e,r,b⟩
def FW (a:List Int) (m:Msg) (off:Nat) (f:Bool) (k:Nat) (r:Qt1):Prop:=∃ (b:Msg) (o:Nat) (f':Bool),r=Zzg b a o f'∧FR a m off f k b o f'
def ZFr {b:List Int} (i:Zq b) (j:b.length≤1000000) (off:Nat) (k:off≤b.length) (f:Bool) (m:Msg) (a:TM b.length m):Ret (FW b m off f 0) (ofM (g64 (Za b) off f) m (((0:Nat)):Int)):=by
 unfold ofM;rw [Vn];refine Zc (P4 (by kernel_rfl)) ?_;refine Zb (w63 i j off k f) fun r ⟨v,o,f',l,h⟩=>?_;subst l;exact Zf ⟨{ m with region:=v },o,f',rfl,h.fr (fun w=>w.region) ⟨a.req,a.nodes,a.ids,a.cores,a.moves,a.next,a.state,a.report⟩ ⟨rfl,rfl,rfl,rfl⟩ (fun g c d=>match g,d with | 0,h=>absurd rfl h | 1,_=>rfl | 2,_=>rfl | 3,_=>rfl | 4,_=>rfl | 5,_=>rfl | 6,_=>rfl | 7,_=>rfl | 8,_=>rfl | 9,_=>rfl | 10,_=>rfl | 11,_=>rfl | 12,_=>rfl | 13,_=>rfl | 14,_=>rfl | n+15,_=>trivial) (fun w c d=>⟨c.region,rfl⟩) (fun w e=>e)⟩
def ZF6 {b:List Int} (i:Zq b) (j:b.length≤1000000) (off:Nat) (k:off≤b.length) (f:Bool) (m:Msg) (a:TM b.length m):Ret (FW b m off f 1) (ofM (g64 (Za b) off f) m (((1:Nat)):Int)):=by
 unfold ofM;rw [Vn];refine Zc (P3 (Zt (by kernel_rfl))) ?_;refine Zc (P4 (by kernel_rfl)) ?_;refine Zb (ZI8 i j off k f) fun r ⟨v,o,f',l,h⟩=>?_;subst l;exact Zf ⟨{ m with req:=v },o,f',rfl,h.fr (fun w=>w.req) ⟨h.tot,a.nodes,a.ids,a.cores,a.moves,a.next,a.state,a.report⟩ ⟨rfl,rfl,rfl,rfl⟩ (fun g d c=>match g,c with | 0,_=>rfl | 1,h=>absurd rfl h | 2,_=>rfl | 3,_=>rfl | 4,_=>rfl | 5,_=>rfl | 6,_=>rfl | 7,_=>rfl | 8,_=>rfl | 9,_=>rfl | 10,_=>rfl | 11,_=>rfl | 12,_=>rfl | 13,_=>rfl | 14,_=>rfl | n+15,_=>trivial) (fun w d c=>⟨⟨d.req,ZhM c⟩,rfl⟩) (fun w e=>e)⟩
def ZEu {b:List Int} (i:Zq b) (j:b.length≤1000000) (off:Nat) (k:off≤b.length) (f:Bool) (m:Msg) (a:TM b.length m):Ret (FW b m off f 2) (ofM (g64 (Za b) off f) m (((2:Nat)):Int)):=by
 unfold ofM;rw [Vn];refine Zc (P3 (Zt (by kernel_rfl))) ?_;refine Zc (P3 (Zt (by kernel_rfl))) ?_;refine Zc (P4 (by kernel_rfl)) ?_;refine Zb (ZAv i j off k f) fun r ⟨v,o,f',l,h⟩=>?_;subst l;exact Zf ⟨{ m with op:=v },o,f',rfl,h.fr (fun w=>w.op) ⟨a.req,a.nodes,a.ids,a.cores,a.moves,a.next,a.state,a.report⟩ ⟨rfl,rfl,rfl,rfl⟩ (fun g c d=>match g,d with | 0,_=>rfl | 1,_=>rfl | 2,h=>absurd rfl h | 3,_=>rfl | 4,_=>rfl | 5,_=>rfl | 6,_=>rfl | 7,_=>rfl | 8,_=>rfl | 9,_=>rfl | 10,_=>rfl | 11,_=>rfl | 12,_=>rfl | 13,_=>rfl | 14,_=>rfl | n+15,_=>trivial) (fun w c d=>⟨c.op,rfl⟩) (fun w e=>e)⟩
def ZIo {b:List Int} (i:Zq b) (j:b.length≤1000000) (off:Nat) (k:off≤b.length) (f:Bool) (m:Msg) (a:TM b.length m):Ret (FW b m off f 3) (ofM (g64 (Za b) off f) m (((3:Nat)):Int)):=by
 unfold ofM;rw [Vn]
 iterate 3 refine Zc (P3 (Zt (by kernel_rfl))) ?_
 refine Zc (P4 (by kernel_rfl)) ?_;refine Zb (w63 i j off k f) fun r ⟨v,o,f',l,h⟩=>?_;subst l;exact Zf ⟨{ m with err:=v },o,f',rfl,h.fr (fun w=>w.err) ⟨a.req,a.nodes,a.ids,a.cores,a.moves,a.next,a.state,a.report⟩ ⟨rfl,rfl,rfl,rfl⟩ (fun g c d=>match g,d with | 0,_=>rfl | 1,_=>rfl | 2,_=>rfl | 3,h=>absurd rfl h | 4,_=>rfl | 5,_=>rfl | 6,_=>rfl | 7,_=>rfl | 8,_=>rfl | 9,_=>rfl | 10,_=>rfl | 11,_=>rfl | 12,_=>rfl | 13,_=>rfl | 14,_=>rfl | n+15,_=>trivial) (fun w c d=>⟨c.err,rfl⟩) (fun w e=>e)⟩
def ZEC {b:List Int} (d:Zq b) (i:b.length≤1000000) (off:Nat) (j:off≤b.length) (f:Bool) (m:Msg) (a:TM b.length m):Ret (FW b m off f 4) (ofM (g64 (Za b) off f) m (((4:Nat)):Int)):=by
 unfold ofM;rw [Vn]
 iterate 4 refine Zc (P3 (Zt (by kernel_rfl))) ?_
 refine Zc (P4 (by kernel_rfl)) ?_;refine Zb (ZIA d i off j f) fun r ⟨v,o,f',k,h⟩=>?_;subst k;exact Zf ⟨{ m with settled:=v },o,f',rfl,h.fr (fun w=>w.settled) ⟨a.req,a.nodes,a.ids,a.cores,a.moves,a.next,a.state,a.report⟩ ⟨rfl,rfl,rfl,rfl⟩ (fun g l c=>match g,c with | 0,_=>rfl | 1,_=>rfl | 2,_=>rfl | 3,_=>rfl | 4,h=>absurd rfl h | 5,_=>rfl | 6,_=>rfl | 7,_=>rfl | 8,_=>rfl | 9,_=>rfl | 10,_=>rfl | 11,_=>rfl | 12,_=>rfl | 13,_=>rfl | 14,_=>rfl | n+15,_=>trivial) (fun w l c=>⟨trivial,rfl⟩) (fun w e=>e)⟩
def ZFz {b:List Int} (i:Zq b) (j:b.length≤1000000) (off:Nat) (k:off≤b.length) (f:Bool) (m:Msg) (a:TM b.length m):Ret (FW b m off f 5) (ofM (g64 (Za b) off f) m (((5:Nat)):Int)):=by
 unfold ofM;rw [Vn]
 iterate 5 refine Zc (P3 (Zt (by kernel_rfl))) ?_
 refine Zc (P4 (by kernel_rfl)) ?_;refine Zb (ZKj i j off k f) fun r ⟨v,o,f',l,h⟩=>?_;subst l;exact Zf ⟨{ m with nodes:=v },o,f',rfl,h.fr (fun w=>w.nodes) ⟨a.req,h.tot,a.ids,a.cores,a.moves,a.next,a.state,a.report⟩ ⟨rfl,rfl,rfl,rfl⟩ (fun g d c=>match g,c with | 0,_=>rfl | 1,_=>rfl | 2,_=>rfl | 3,_=>rfl | 4,_=>rfl | 5,h=>absurd rfl h | 6,_=>rfl | 7,_=>rfl | 8,_=>rfl | 9,_=>rfl | 10,_=>rfl | 11,_=>rfl | 12,_=>rfl | 13,_=>rfl | 14,_=>rfl | n+15,_=>trivial) (fun w d c=>⟨⟨JY d.nodesn,fun x p=>.inl ((by simp only [Zh,Xj,Xo] at c;exact c.2 x p))⟩,rfl⟩) (fun w e=>e)⟩
def ZGr {b:List Int} (i:Zq b) (j:b.length≤1000000) (off:Nat) (k:off≤b.length) (f:Bool) (m:Msg) (a:TM b.length m):Ret (FW b m off f 6) (ofM (g64 (Za b) off f) m (((6:Nat)):Int)):=by
 unfold ofM;rw [Vn]
 iterate 6 refine Zc (P3 (Zt (by kernel_rfl))) ?_
 refine Zc (P4 (by kernel_rfl)) ?_;refine Zb (w63 i j off k f) fun r ⟨v,o,f',l,h⟩=>?_;subst l;exact Zf ⟨{ m with slot:=v },o,f',rfl,h.fr (fun w=>w.slot) ⟨a.req,a.nodes,a.ids,a.cores,a.moves,a.next,a.state,a.report⟩ ⟨rfl,rfl,rfl,rfl⟩ (fun g c d=>match g,d with | 0,_=>rfl | 1,_=>rfl | 2,_=>rfl | 3,_=>rfl | 4,_=>rfl | 5,_=>rfl | 6,h=>absurd rfl h | 7,_=>rfl | 8,_=>rfl | 9,_=>rfl | 10,_=>rfl | 11,_=>rfl | 12,_=>rfl | 13,_=>rfl | 14,_=>rfl | n+15,_=>trivial) (fun w c d=>⟨c.slot,rfl⟩) (fun w e=>e)⟩
def ZFP {b:List Int} (i:Zq b) (j:b.length≤1000000) (off:Nat) (k:off≤b.length) (f:Bool) (m:Msg) (a:TM b.length m):Ret (FW b m off f 7) (ofM (g64 (Za b) off f) m (((7:Nat)):Int)):=by
 unfold ofM;rw [Vn]
 iterate 7 refine Zc (P3 (Zt (by kernel_rfl))) ?_
 refine Zc (P4 (by kernel_rfl)) ?_;refine Zb (ZIs i j off k f) fun r ⟨v,o,f',l,h⟩=>?_;subst l;exact Zf ⟨{ m with ids:=v },o,f',rfl,h.fr (fun w=>w.ids) ⟨a.req,a.nodes,h.tot.1,a.cores,a.moves,a.next,a.state,a.report⟩ ⟨rfl,rfl,rfl,rfl⟩ (fun g c d=>match g,d with | 0,_=>rfl | 1,_=>rfl | 2,_=>rfl | 3,_=>rfl | 4,_=>rfl | 5,_=>rfl | 6,_=>rfl | 7,h=>absurd rfl h | 8,_=>rfl | 9,_=>rfl | 10,_=>rfl | 11,_=>rfl | 12,_=>rfl | 13,_=>rfl | 14,_=>rfl | n+15,_=>trivial) (fun w c d=>⟨⟨JY c.idsn,c.ids⟩,rfl⟩) (fun w e=>e)⟩
def ZG6 {b:List Int} (i:Zq b) (j:b.length≤1000000) (off:Nat) (k:off≤b.length) (f:Bool) (m:Msg) (a:TM b.length m):Ret (FW b m off f 8) (ofM (g64 (Za b) off f) m (((8:Nat)):Int)):=by
 unfold ofM;rw [Vn]
 iterate 8 refine Zc (P3 (Zt (by kernel_rfl))) ?_
 refine Zc (P4 (by kernel_rfl)) ?_;refine Zb (w63 i j off k f) fun r ⟨v,o,f',l,h⟩=>?_;subst l;exact Zf ⟨{ m with round:=v },o,f',rfl,h.fr (fun w=>w.round) ⟨a.req,a.nodes,a.ids,a.cores,a.moves,a.next,a.state,a.report⟩ ⟨rfl,rfl,rfl,rfl⟩ (fun g c d=>match g,d with | 0,_=>rfl | 1,_=>rfl | 2,_=>rfl | 3,_=>rfl | 4,_=>rfl | 5,_=>rfl | 6,_=>rfl | 7,_=>rfl | 8,h=>absurd rfl h | 9,_=>rfl | 10,_=>rfl | 11,_=>rfl | 12,_=>rfl | 13,_=>rfl | 14,_=>rfl | n+15,_=>trivial) (fun w c d=>⟨c.round,rfl⟩) (fun w e=>e)⟩
def ZE5 {b:List Int} (i:Zq b) (j:b.length≤1000000) (off:Nat) (k:off≤b.length) (f:Bool) (m:Msg) (a:TM b.length m):Ret (FW b m off f 9) (ofM (g64 (Za b) off f) m (((9:Nat)):Int)):=by
 unfold ofM;rw [Vn]
 iterate 9 refine Zc (P3 (Zt (by kernel_rfl))) ?_
 refine Zc (P4 (by kernel_rfl)) ?_;refine Zb (ZH9 i j off k f) fun r ⟨v,o,f',l,h⟩=>?_;subst l;exact Zf ⟨{ m with cores:=v },o,f',rfl,h.fr (fun w=>w.cores) ⟨a.req,a.nodes,a.ids,h.tot.1,a.moves,a.next,a.state,a.report⟩ ⟨rfl,rfl,rfl,rfl⟩ (fun g c d=>match g,d with | 0,_=>rfl | 1,_=>rfl | 2,_=>rfl | 3,_=>rfl | 4,_=>rfl | 5,_=>rfl | 6,_=>rfl | 7,_=>rfl | 8,_=>rfl | 9,h=>absurd rfl h | 10,_=>rfl | 11,_=>rfl | 12,_=>rfl | 13,_=>rfl | 14,_=>rfl | n+15,_=>trivial) (fun w c d=>⟨⟨JY c.coresn,c.cores⟩,rfl⟩) (fun w e=>e)⟩
def ZBR {b:List Int} (i:Zq b) (j:b.length≤1000000) (off:Nat) (k:off≤b.length) (f:Bool) (m:Msg) (a:TM b.length m):Ret (FW b m off f 10) (ofM (g64 (Za b) off f) m (((10:Nat)):Int)):=by
 unfold ofM;rw [Vn]
 iterate 10 refine Zc (P3 (Zt (by kernel_rfl))) ?_
 refine Zc (P4 (by kernel_rfl)) ?_;refine Zb (ZJP i j off k f) fun r ⟨v,o,f',l,h⟩=>?_;subst l;exact Zf ⟨{ m with report:=v },o,f',rfl,h.fr (fun w=>w.report) ⟨a.req,a.nodes,a.ids,a.cores,a.moves,a.next,a.state,h.tot⟩ ⟨rfl,rfl,rfl,rfl⟩ (fun g c d=>match g,d with | 0,_=>rfl | 1,_=>rfl | 2,_=>rfl | 3,_=>rfl | 4,_=>rfl | 5,_=>rfl | 6,_=>rfl | 7,_=>rfl | 8,_=>rfl | 9,_=>rfl | 10,h=>absurd rfl h | 11,_=>rfl | 12,_=>rfl | 13,_=>rfl | 14,_=>rfl | n+15,_=>trivial) (fun w c d=>⟨(by simp only [Zh,Zcy,Xj] at d;exact ⟨c.report.core,c.report.view,We d.1.1.2 c.report.state,c.report.next,We d.2 c.report.proposal⟩),rfl⟩) (fun w e=>e)⟩
def ZA0 {b:List Int} (i:Zq b) (j:b.length≤1000000) (off:Nat) (k:off≤b.length) (f:Bool) (m:Msg) (a:TM b.length m):Ret (FW b m off f 11) (ofM (g64 (Za b) off f) m (((11:Nat)):Int)):=by
 unfold ofM;rw [Vn]
 iterate 11 refine Zc (P3 (Zt (by kernel_rfl))) ?_
 refine Zc (P4 (by kernel_rfl)) ?_;refine Zb (w63 i j off k f) fun r ⟨v,o,f',l,h⟩=>?_;subst l;exact Zf ⟨{ m with base:=v },o,f',rfl,h.fr (fun w=>w.base) ⟨a.req,a.nodes,a.ids,a.cores,a.moves,a.next,a.state,a.report⟩ ⟨rfl,rfl,rfl,rfl⟩ (fun g c d=>match g,d with | 0,_=>rfl | 1,_=>rfl | 2,_=>rfl | 3,_=>rfl | 4,_=>rfl | 5,_=>rfl | 6,_=>rfl | 7,_=>rfl | 8,_=>rfl | 9,_=>rfl | 10,_=>rfl | 11,h=>absurd rfl h | 12,_=>rfl | 13,_=>rfl | 14,_=>rfl | n+15,_=>trivial) (fun w c d=>⟨c.base,rfl⟩) (fun w e=>e)⟩
def ZCa {b:List Int} (i:Zq b) (j:b.length≤1000000) (off:Nat) (k:off≤b.length) (f:Bool) (m:Msg) (a:TM b.length m):Ret (FW b m off f 12) (ofM (g64 (Za b) off f) m (((12:Nat)):Int)):=by
 unfold ofM;rw [Vn]
 iterate 12 refine Zc (P3 (Zt (by kernel_rfl))) ?_
 refine Zc (P4 (by kernel_rfl)) ?_;refine Zb (ZGY i j off k f) fun r ⟨v,o,f',l,h⟩=>?_;subst l;exact Zf ⟨{ m with next:=v },o,f',rfl,h.fr (fun w=>w.next) ⟨a.req,a.nodes,a.ids,a.cores,a.moves,h.tot,a.state,a.report⟩ ⟨rfl,rfl,rfl,rfl⟩ (fun g c d=>match g,d with | 0,_=>rfl | 1,_=>rfl | 2,_=>rfl | 3,_=>rfl | 4,_=>rfl | 5,_=>rfl | 6,_=>rfl | 7,_=>rfl | 8,_=>rfl | 9,_=>rfl | 10,_=>rfl | 11,_=>rfl | 12,h=>absurd rfl h | 13,_=>rfl | 14,_=>rfl | n+15,_=>trivial) (fun w c d=>⟨c.next,rfl⟩) (fun w e=>e)⟩
def ZAY {b:List Int} (i:Zq b) (j:b.length≤1000000) (off:Nat) (k:off≤b.length) (f:Bool) (m:Msg) (a:TM b.length m):Ret (FW b m off f 13) (ofM (g64 (Za b) off f) m (((13:Nat)):Int)):=by
 unfold ofM;rw [Vn]
 iterate 13 refine Zc (P3 (Zt (by kernel_rfl))) ?_
 refine Zc (P4 (by kernel_rfl)) ?_;refine Zb (ZFv i j off k f) fun r ⟨v,o,f',l,h⟩=>?_;subst l;exact Zf ⟨{ m with state:=v },o,f',rfl,h.fr (fun w=>w.state) ⟨a.req,a.nodes,a.ids,a.cores,a.moves,a.next,h.tot,a.report⟩ ⟨rfl,rfl,rfl,rfl⟩ (fun g d c=>match g,c with | 0,_=>rfl | 1,_=>rfl | 2,_=>rfl | 3,_=>rfl | 4,_=>rfl | 5,_=>rfl | 6,_=>rfl | 7,_=>rfl | 8,_=>rfl | 9,_=>rfl | 10,_=>rfl | 11,_=>rfl | 12,_=>rfl | 13,h=>absurd rfl h | 14,_=>rfl | n+15,_=>trivial) (fun w d c=>⟨We c d.state,rfl⟩) (fun w e=>e)⟩
def Zze {b:List Int} (i:Zq b) (j:b.length≤1000000) (off:Nat) (k:off≤b.length) (f:Bool) (m:Msg) (a:TM b.length m):Ret (FW b m off f 14) (ofM (g64 (Za b) off f) m (((14:Nat)):Int)):=by
 unfold ofM;rw [Vn]
 iterate 14 refine Zc (P3 (Zt (by kernel_rfl))) ?_
 refine Zc (P4 (by kernel_rfl)) ?_;refine Zb (ZKY i j off k f) fun r ⟨v,o,f',l,h⟩=>?_;subst l;exact Zf ⟨{ m with moves:=v },o,f',rfl,h.fr (fun w=>w.moves) ⟨a.req,a.nodes,a.ids,a.cores,h.tot.1,a.next,a.state,a.report⟩ ⟨rfl,rfl,rfl,rfl⟩ (fun g c d=>match g,d with | 0,_=>rfl | 1,_=>rfl | 2,_=>rfl | 3,_=>rfl | 4,_=>rfl | 5,_=>rfl | 6,_=>rfl | 7,_=>rfl | 8,_=>rfl | 9,_=>rfl | 10,_=>rfl | 11,_=>rfl | 12,_=>rfl | 13,_=>rfl | 14,h=>absurd rfl h | n+15,_=>trivial) (fun w c d=>⟨⟨JY c.movesn,fun x p=>c.moves x p⟩,rfl⟩) (fun w e=>e)⟩
def w64 {e:List Int} (a:Zq e) (b:e.length≤1000000) (off:Nat) (c:off≤e.length) (f:Bool) (m:Msg) (d:TM e.length m) (k:Nat) (g:k < 15):Ret (FW e m off f k) (ofM (g64 (Za e) off f) m (k:Int)):=by
 unfold ofM
 match k,g with
 | 0, _ => exact ZFr a b off c f m d
 | 1, _ => exact ZF6 a b off c f m d
 | 2, _ => exact ZEu a b off c f m d
 | 3, _ => exact ZIo a b off c f m d
 | 4, _ => exact ZEC a b off c f m d
 | 5, _ => exact ZFz a b off c f m d
 | 6, _ => exact ZGr a b off c f m d
 | 7, _ => exact ZFP a b off c f m d
 | 8, _ => exact ZG6 a b off c f m d
 | 9, _ => exact ZE5 a b off c f m d
 | 10, _ => exact ZBR a b off c f m d
 | 11, _ => exact ZA0 a b off c f m d
 | 12, _ => exact ZCa a b off c f m d
 | 13, _ => exact ZAY a b off c f m d
 | 14, _ => exact Zze a b off c f m d
def Zdz {a b c:Msg} : ∀ {g:Nat},eqF a b g→eqF b c g→eqF a c g
 | 0, h, h2 => XR (h : a.region = b.region) h2
 | 1, h, h2 => XR (h : a.req = b.req) h2
 | 2, h, h2 => XR (h : a.op = b.op) h2
 | 3, h, h2 => XR (h : a.err = b.err) h2
 | 4, h, h2 => XR (h : a.settled = b.settled) h2
 | 5, h, h2 => XR (h : a.nodes = b.nodes) h2
 | 6, h, h2 => XR (h : a.slot = b.slot) h2
 | 7, h, h2 => XR (h : a.ids = b.ids) h2
 | 8, h, h2 => XR (h : a.round = b.round) h2
 | 9, h, h2 => XR (h : a.cores = b.cores) h2
 | 10, h, h2 => XR (h : a.report = b.report) h2
 | 11, h, h2 => XR (h : a.base = b.base) h2
 | 12, h, h2 => XR (h : a.next = b.next) h2
 | 13, h, h2 => XR (h : a.state = b.state) h2
 | 14, h, h2 => XR (h : a.moves = b.moves) h2
 | n + 15, _, _ => trivial
structure DL (bs:List Int) (m0:Msg) (o0:Nat) (f0:Bool) (L:List Nat) (i:Nat) (m:Msg) (o:Nat) (f:Bool):Prop where
 le:o≤bs.length
 tm:TM bs.length m
 hd:m.kind=m0.kind∧m.view=m0.view∧m.frm=m0.frm∧m.to=m0.to
 oth:∀ g,g < 15→g∉L.take i→eqF m m0 g
 post:∀ w rest,f0=Xc→w.Good→(∀ g∈L,Zh w g=Xb)→bs.drop o0=(L.map (ZZ w)).flatten++rest→(∀ g∈L.take i,eqF m w g)∧bs.drop o=((L.drop i).map (ZZ w)).flatten++rest∧f=Xc
def DL.step {k:List Int} {p m q:Msg} {r o s:Nat} {t f f':Bool} {L:List Nat} {i:Nat} (h:DL k p r t L i m o f) (l:i < L.length) (y:∀ g∈L,g < 15) (a:FR k m o f L[i] q s f'):DL k p r t L (i+1) q s f':=by
 have u:L.take (i+1)=L.take i++[L[i]]:=by rw [List.take_add_one,List.getElem?_eq_getElem l];rfl
 obtain ⟨z,A,C,D⟩:=h.hd;obtain ⟨E,G,H,J⟩:=a.hd;refine ⟨a.le,a.tm,⟨E.trans z,G.trans A,H.trans C,J.trans D⟩,fun g b n=>?_,fun w rest M v c d=>?_⟩
 ·rw [u,Xz,Uh] at n;exact Zdz (a.oth g b fun e=>n (.inr e)) (h.oth g b fun e=>n (.inl e))
 ·obtain ⟨N,x,O⟩:=h.post w rest M v c d;rw [UF l,Xn,XD,Xl] at x;obtain ⟨Q,R,S⟩:=a.post w _ O v (c _ (Xq l)) x;refine ⟨fun g b=>?_,R,S⟩;by_cases he:g=L[i]
  ·rw [he];exact Q
  ·rw [u,Xz,Uh] at b;have j:=b.resolve_right he;exact Zdz (a.oth g (y g (XS j)) he) (N g j)
@[reducible] def lp17 (k:Nat) (b:List (List AV)):=Zp7 k b 0 0 0 0 0 0 0 0 0 0 0 Xc 0 0 0 0 0 0 0 0 0 0 0 0 0 0 0 0 0 0 0 0 E0 0 0 0 0 0 0 Xc E0 E0 E0 E0 0 0 E0 E0 E0 E0 E0 E0 E0 E0 0 0 E0 E0 E0 E0 E0 E0 E0 E0 Xc 0 E0 E0 E0 E0 E0 E0 E0 E0
def l17 {a:List Int} {P:Qt4→Prop} (u:Zq a) (v:a.length≤1000000) {L:List Nat} (t:∀ g∈L,g < 15) (H:L.length≤5) (c:Msg) (d:Nat) (p:Bool) (x:d≤a.length) (y:TM a.length c)
  (e:∀ k (m:Msg) (o:Nat) (f:Bool),DL a c d p L L.length m o f→Ret P (ofM (lp17 (k+1) (Za a)) m (fc L) (L.length:Int) (L.length:Int) (Za a) (o:Int) f)) :
  Ret P (ofM (lp17 Zr (Za a)) c (fc L) (L.length:Int) 0 (Za a) (d:Int) p):=by
 unfold ofM;refine K3 (F:=fun k (s:Msg×Nat×Bool) z=>ofM (lp17 k (Za a)) s.1 (fc L) (L.length:Int) z (Za a) (s.2.1:Int) s.2.2) (n:=L.length) (fun i s=>DL a c d p L i s.1 s.2.1 s.2.2) (by omega) (fun k i s j b ih=>?_) (fun k s b=>e k s.1 s.2.1 s.2.2 b) (c,d,p) ⟨x,y,⟨rfl,rfl,rfl,rfl⟩,fun g q _=>?_,fun w rest A J C l=>⟨fun g q=>by simp at q,l,A⟩⟩
 ·obtain ⟨m,o,f⟩:=s;dsimp only at b ih ⊢;refine Zc (Zns ..) (Zc (P4 (Z4 j)) (Zc (Zls j _) ?_));refine Zb (w64 u v o b.le f m b.tm L[i] (t _ (Xq j))) fun r ⟨D,E,f',G,h⟩=>?_;subst G;rw [ZS j (by omega)];exact ih (D,E,f') (b.step j t h)
 ·match g,q with
  | 0, _ => exact rfl
  | 1, _ => exact rfl
  | 2, _ => exact rfl
  | 3, _ => exact rfl
  | 4, _ => exact rfl
  | 5, _ => exact rfl
  | 6, _ => exact rfl
  | 7, _ => exact rfl
  | 8, _ => exact rfl
  | 9, _ => exact rfl
  | 10, _ => exact rfl
  | 11, _ => exact rfl
  | 12, _ => exact rfl
  | 13, _ => exact rfl
  | 14, _ => exact rfl
def Zlt {n:Nat} (z:n≤1000000) {m:Msg} (h:TM n m):m.Sized∧m.Short:=by
 have e:∀ s:JD,TS n s→s.Sized∧s.Short:=fun s h=>by
  obtain ⟨r,j,t,k,A,C,D,u,E⟩:=h;have f:∀ x:Yc,TN x→x.path.length < 2^44:=fun x h=>by have h:x.path.length≤8:=h;omega
  exact ⟨⟨by omega,by omega,by omega,by omega,by omega,by omega,fun x d=>f _ (j x d),fun x d=>⟨f _ (k x d).2,(k x d).1⟩,fun x d=>f _ (u x d)⟩,⟨by omega,by omega,by omega,by omega,by omega,by omega⟩⟩
 have c:∀ v:Vu,TV n v→v.Sized∧v.members.length≤2000000∧v.owners.length≤2000000:=fun v h=>by
  obtain ⟨a,b⟩:=h;exact ⟨⟨by omega,by omega⟩,by omega,by omega⟩
 obtain ⟨⟨w,l⟩,⟨G,y⟩,r,j,t,v,s,p⟩:=h;obtain ⟨g,o,i,q⟩:=p;have l:m.req.src.path.length≤8:=l;refine ⟨⟨by omega,w,by omega,by omega,fun x d=>?_,by omega,by omega,(c _ v).1,(e _ s).1,⟨(c _ g).1,(e _ o).1,(c _ i).1,(e _ q).1⟩⟩,⟨by omega,by omega,by omega,by omega,(c _ v).2.1,(c _ v).2.2,(c _ g).2.1,(c _ g).2.2,(c _ i).2.1,(c _ i).2.2,(e _ s).2,(e _ o).2,(e _ q).2⟩⟩;have h:x.path.length≤8:=y x d;omega
def Zdi (a b c d:Int):Msg:=⟨a,b,c,d,0,0,0,zid,0,Xc,Jr,[],[],[],[],0,ZW,Zk,Zn⟩
def Zp (n:Nat) (a b c d:Int):TM n (Zdi a b c d):=by
 have e:Rng 0:=⟨by decide,by decide⟩;have h:TN Z5:=by simp [TN,Z5]
 have f:TV n ZW:=⟨XT _,XT _⟩;have g:TS n Zk:=⟨XT _,by simp [Zk],XT _,by simp [Zk],XT _,XT _,XT _,by simp [Zk],XT _⟩;exact ⟨⟨(ZjX _).2 ⟨e,e,e,e,e,e,e,e,e,e,e,e⟩,h⟩,⟨XT _,by simp [Zdi]⟩,XT _,XT _,XT _,f,g,⟨f,g,f,g⟩⟩
def Zv4 (a b c d:Int):∀ g,g < 15→zf (Zdi a b c d) g=Xb
 | 0, _ => rfl
 | 1, _ => rfl
 | 2, _ => rfl
 | 3, _ => rfl
 | 4, _ => rfl
 | 5, _ => rfl
 | 6, _ => rfl
 | 7, _ => rfl
 | 8, _ => rfl
 | 9, _ => rfl
 | 10, _ => rfl
 | 11, _ => rfl
 | 12, _ => rfl
 | 13, _ => rfl
 | 14, _ => rfl
 | n + 15, h => absurd h (by omega)
def DL.all {n:List Int} {a b c d:Int} {L:List Nat} {p o:Nat} {q f:Bool} {m w:Msg} (h:DL n (Zdi a b c d) p q L L.length m o f) (r:Zj6 w) (i:L=kf w.kind.toNat) (u:a=w.kind) (v:b=w.view) (x:c=w.frm) (y:d=w.to) (z:q=Xc) (e:n.drop p=((kf w.kind.toNat).map (ZZ w)).flatten):m=w∧f=Xc:=by
 have j:=r.valid;simp only [Z1,Xj,Xo] at j;obtain ⟨s,_,A⟩:=h.post w [] z r.good (by rw [i];exact j.2.1) (by rw [i,e,XY]);rw [Ty] at s;obtain ⟨C,D,E,G⟩:=h.hd;refine ⟨Zkp (C.trans u) (D.trans v) (E.trans x) (G.trans y) fun g k=>?_,A⟩;by_cases hk:g∈L
 ·exact s g hk
 ·have t:=j.2.2;simp only [rest,Xo,UC,XF] at t;have l:¬ (kf w.kind.toNat).contains g=Xb:=fun h=>hk (by rw [i];exact UZ.1 h);exact Zdz (h.oth g k (by rw [Ty];exact hk)) (ZuU (Zv4 a b c d g k) ((t g k).resolve_left l))
def Zf0 (m:Msg) (e:Int):Qt4:=(m.kind,m.view,m.frm,m.to,m.round,m.region,m.slot,m.op.core,m.op.op,m.op.part,m.err,m.settled,m.req.id.core,m.req.id.op,m.req.id.part,m.req.call.kind,m.req.call.slot,m.req.call.dest,m.req.call.core,m.req.call.mask,m.req.call.object,m.req.call.bits,m.req.call.level,m.req.call.offset,m.req.call.count,m.req.call.index,m.req.call.addr,m.req.region,m.req.width,m.req.src.id.core,m.req.src.id.op,m.req.src.id.part,(Ze m.req.src.path),m.req.src.cap.kind,m.req.src.cap.base,m.req.src.cap.bits,m.req.src.cap.rights,m.req.src.cap.width,m.req.src.cap.level,m.req.src.cap.device,(Ze m.ids),(m.nodes.map YM),(Zd m.cores),(m.moves.map YE),m.base,m.next.number,(Zd m.next.members),(Zd m.next.owners),(m.state.slots.map Zv),(m.state.pending.map Jq),(m.state.marks.map Zz),(m.state.answers.map JB),(m.state.entries.map Zi),(Ze m.state.commits),m.report.core,m.report.view.number,(Zd m.report.view.members),(Zd m.report.view.owners),(m.report.state.slots.map Zv),(m.report.state.pending.map Jq),(m.report.state.marks.map Zz),(m.report.state.answers.map JB),(m.report.state.entries.map Zi),(Ze m.report.state.commits),m.report.ready,m.report.next.number,(Zd m.report.next.members),(Zd m.report.next.owners),(m.report.proposal.slots.map Zv),(m.report.proposal.pending.map Jq),(m.report.proposal.marks.map Zz),(m.report.proposal.answers.map JB),(m.report.proposal.entries.map Zi),(Ze m.report.proposal.commits),e)
def Zzz:Msg:=Zdi 0 0 0 0
def ZJM {γ:Type} {a b:List Int} (c:Zq a) (d:Zq b) {k:Bool→Option γ} : (g65 (Za a) (Za b)).bind k=k (decide (a=b)):=by
 rw [ZCF,Zg (Zdb c),Zg (Zdb d),Xd];congr 1;by_cases h:a=b
 ·subst h;rw [decide_eq_true rfl,beq_self_eq_true]
 ·rw [decide_eq_false h];exact beq_eq_false_iff_ne.2 fun e=>h (Zsl c d e)
def ZCi (a:List Int) (r:Qt4):Prop:=(∃ m:Msg,Zj6 m∧ZeY m=a∧r=Zf0 m 0)∨((∀ m:Msg,Zj6 m→ZeY m≠a)∧r=Zf0 Zzz 14)
def s17 {l:List Int} (x:Zq l) (y:l.length≤1000000):Ret (ZCi l) (g17 (Za l)):=by
 rw [ZAl];refine Zb (w63 x y 0 (XT _) Xc) fun r ⟨a,Z,f1,u,R⟩=>?_;subst u;refine Zb (w63 x y Z R.le f1) fun r ⟨b,o2,f2,u,S⟩=>?_;subst u;refine Zb (w63 x y o2 S.le f2) fun r ⟨c,o3,f3,u,T⟩=>?_;subst u;refine Zb (w63 x y o3 T.le f3) fun r ⟨d,D,E,u,U⟩=>?_;subst u
 have s:∀ w:Msg,Zj6 w→ZeY w=l→a=w.kind∧b=w.view∧c=w.frm∧d=w.to∧E=Xc∧l.drop D=((kf w.kind.toNat).map (ZZ w)).flatten:=fun w i j=>by
  have C:=i.good
  have e0:l.drop 0=nB w.kind++(nB w.view++(nB w.frm++(nB w.to++((kf w.kind.toNat).map (ZZ w)).flatten))):=by
   rw [X7,← j];simp only [ZeY,Yk,Xl]
  obtain ⟨G,r1,b1⟩:=R.post _ _ rfl C.kind e0;obtain ⟨H,r2,b2⟩:=S.post _ _ b1 C.view r1;obtain ⟨J,r3,b3⟩:=T.post _ _ b2 C.frm r2;obtain ⟨M,r4,b4⟩:=U.post _ _ b3 C.to r3;exact ⟨G,H,J,M,b4,r4⟩
 have t:∀ w:Msg,Zj6 w→1≤w.kind∧w.kind≤17:=fun w i=>by
  have p:=i.valid;unfold Z1 headOk kindOk at p;simp only [Xj,P5] at p;exact p.1.1.1.1
 have W:∀ (L:List Nat) (q:Bool),(∀ g∈L,g < 15)→L.length≤5→(∀ w,Zj6 w→ZeY w=l→L=kf w.kind.toNat)→Ret (ZCi l) (ofM (lp17 Zr (Za l)) (Zdi a b c d) (fc L) (L.length:Int) 0 (Za l) (D:Int) E):=fun L q hL N z=>by
  refine l17 x y hL N (Zdi a b c d) D E U.le (Zp _ a b c d) fun k m o f X=>?_
  have v:∀ w,Zj6 w→ZeY w=l→m=w∧f=Xc:=fun w i j=>by
   obtain ⟨G,H,J,M,e5,e6⟩:=s w i j;exact X.all i (z w i j) G H J M e5 e6
  obtain ⟨O,Y⟩:=Zlt y X.tm;refine Zc (Zns ..) (Zc (P3 (Z3 (Xr _))) ?_);refine Zo (fun Q=>Zf (.inr ⟨fun w i j=>?_,rfl⟩)) fun Q=>?_
  ·have:=(v w i j).2;rw [this] at Q;cases Q
  refine Jb (s14 m O.fits fun p=>Zbu O Y p) ?_;by_cases p:Z1 m=Xb
  ·rw [P4 p];have gm:Zj6 m:=⟨Zbu O Y p,p⟩;refine Zc (P3 (Zt (by kernel_rfl))) ?_;refine Zc (ZJM (Zo0 m) x) ?_;refine Zo (fun h=>Zf (.inr ⟨fun w i j=>?_,rfl⟩)) fun h=>Zf (.inl ⟨m,gm,?_,rfl⟩)
   ·have e:=(v w i j).1;rw [e,j] at h;simp at h
   ·simpa using h
  ·rw [P3 p];refine Zc (P4 (by kernel_rfl)) (Zf (.inr ⟨fun w i j=>?_,rfl⟩));have e:=(v w i j).1;rw [e] at p;exact p i.valid
 by_cases z:1≤a∧a≤17
 ·obtain ⟨n,N⟩:∃ n:Nat,a=n:=⟨a.toNat,by omega⟩;have e:=s32 n (by omega) (by omega);rw [← N] at e;refine Jb e ?_;have A:(fc (kf n)).length=(kf n).length:=Xk _;show Ret _ (Zp7 _ _ _ _ _ _ _ _ _ _ _ _ _ _ _ _ _ _ _ _ _ _ _ _ _ _ _ _ _ _ _ _ _ _ _ _ _ _ _ _ _ _ _ _ _ _ _ _ _ _ _ _ _ _ _ _ _ _ _ _ _ _ _ _ _ _ _ _ _ _ _ _ _ _ _ _ _ _ _ _ _ _ _ _ _ _ _ _ _ _ _ _ _ _ _ _ _ _ _ _ _ _ _ _ _ _ _ _ _ _ _ _ _ _ _ _ _ _ _ _ _ _ _ _ _ _ _ _ _ _ _ _ _ _ _ _ _ _ _ _ _ _ _ _ _ _ _ _ _ _ (fc (kf n)) ((fc (kf n)).length:Int) 0 _ _ _);rw [A];refine W (kf n) Xb (Zxy n) (Zrk n) fun w i j=>?_;have:=(s w i j).1;rw [show w.kind.toNat=n by omega]
 ·refine Jb (ZIv a z) ?_;refine W [] Xb (by simp) (by simp) fun w i j=>?_;have:=(s w i j).1;rw [this] at z;exact absurd (t w i) z
def ZdD {s:JD} (h:StS s):(YS s).length≤12000:=by
 have a:=Jg YO 455 12 s.slots (fun x _=>Zc9 x) h.slots;have b:=Jg Wz 598 3 s.pending (fun x _=>ZaU x) h.pend;have c:=Jg YJ 44 3 s.marks (fun x _=>Zdd x) h.marks;have d:=Jg WF 22 3 s.answers (fun x _=>ZgV x) h.answers;have e:=Jg V8 433 3 s.entries (fun x _=>Zgu x) h.entries;have f:=Jg idB 33 3 s.commits (fun x _=>YP x) h.commits;simp only [YS,Xf];omega
def ZhB {v:Vu} (h:VwG v):(Wn v).length≤200:=by
 have a:=ZU v.number;have b:=Jg nB 11 4 v.members (fun x _=>ZU x) h.members;have c:=Jg nB 11 4 v.owners (fun x _=>ZU x) h.owners;simp only [Wn,Xf];omega
def Zxi {r:Js} (h:RpS r):(ZiL r).length≤30000:=by
 have a:=ZU r.core;have b:=ZhB h.view;have c:=ZdD h.state;have d:=ZkC r.ready;have e:=ZhB h.next;have f:=ZdD h.proposal;simp only [ZiL,Xf];omega
def Zqn {m:Msg} (h:MsS m) (f:Nat):(ZZ m f).length≤30000:=by
 match f with
 | 0 => exact XX (ZU m.region) (by omega)
 | 1 => exact XX (ZaU m.req) (by omega)
 | 2 => exact XX (YP m.op) (by omega)
 | 3 => exact XX (ZU m.err) (by omega)
 | 4 => exact XX (ZkC m.settled) (by omega)
 | 5 => exact XX (Jg YA 411 3 m.nodes (fun x _ => K2 x) h.nodes) (by omega)
 | 6 => exact XX (ZU m.slot) (by omega)
 | 7 => exact XX (Jg idB 33 8 m.ids (fun x _ => YP x) h.ids) (by omega)
 | 8 => exact XX (ZU m.round) (by omega)
 | 9 => exact XX (Jg nB 11 4 m.cores (fun x _ => ZU x) h.cores) (by omega)
 | 10 => exact Zxi h.report
 | 11 => exact XX (ZU m.base) (by omega)
 | 12 => exact XX (ZhB h.next) (by omega)
 | 13 => exact XX (ZdD h.state) (by omega)
 | 14 => exact XX (Jg Wk 22 3 m.moves (fun x _ => Zde x) h.moves) (by omega)
 | n + 15 => exact XT _
def ZvH {m:Msg} (h:MsS m):(ZeY m).length≤200000:=by
 have a:=ZU m.kind;have b:=ZU m.view;have c:=ZU m.frm;have d:=ZU m.to;have e:=Zbb (ZZ m) 30000 (kf m.kind.toNat) fun f _=>Zqn h f;have g:=Zrk m.kind.toNat;simp only [ZeY,Yk,Xf];omega
def ZIQ {L:List Int} (h:Zq L) (hl:L.length≤1000000):ZyM (Za L)=Xa (KF L):=by
 rw [Zul,ZB];by_cases h10:L.length=10
 ·rw [P3 (by simp only [ZK,ZN,ZL,ZJ,ZI,ZG,ZM,ZO,ZP,ZF,ZE,ZH,XE,XK,Xu,XN,Xj,XF,P5,decide_eq_false_iff_not,Xw,XO,Xd,Xg,false_iff,true_iff,iff_false,iff_true];omega)]
  obtain ⟨i,j,b,k,l,a,c,d,e,g,rfl⟩:∃ i j b k l a c d e g,L = [i,j,b,k,l,a,c,d,e,g]:=by
   match L,h10 with
   | [i, j, b, k, l, a, c, d, e, g], _ => exact ⟨i, j, b, k, l, a, c, d, e, g, rfl⟩
  obtain ⟨A,C⟩:=h i (by simp);obtain ⟨D,E⟩:=h j (by simp);obtain ⟨o,G⟩:=h b (by simp);obtain ⟨H,J⟩:=h k (by simp);obtain ⟨M,N⟩:=h l (by simp);obtain ⟨p,q⟩:=h a (by simp);obtain ⟨r,s⟩:=h c (by simp);obtain ⟨t,u⟩:=h d (by simp);obtain ⟨v,w⟩:=h e (by simp);obtain ⟨x,y⟩:=h g (by simp);obtain ⟨f,O⟩:=Zlj;have Q:Xi .u64 (P1 .mul .i64 8 0)=((0:Nat):Int):=by decide
  have R:Xi .u64 (P1 .mul .i64 8 1)=((8:Nat):Int):=by decide
  have S:Xi .u64 (P1 .mul .i64 8 2)=((16:Nat):Int):=by decide
  have T:Xi .u64 (P1 .mul .i64 8 3)=((24:Nat):Int):=by decide
  have U:Xi .u64 (P1 .mul .i64 8 4)=((32:Nat):Int):=by decide
  have p0:(2:Int)^0=1:=by decide
  have W:(2:Int)^8=256:=by decide
  have X:(2:Int)^16=65536:=by decide
  have Y:(2:Int)^24=16777216:=by decide
  have Z:(2:Int)^32=4294967296:=by decide
  have o0:P1 .add .i64 0 (a*2^0)=a:=by rw [JE (by omega) (by omega)];omega
  have o1:P1 .add .i64 a (c*2^8)=a+c*256:=by rw [W,JE (by omega) (by omega)]
  have o2:P1 .add .i64 (a+c*256) (d*2^16)=a+c*256+d*65536:=by rw [X,JE (by omega) (by omega)]
  have o3:P1 .add .i64 (a+c*256+d*65536) (e*2^24)=a+c*256+d*65536+e*16777216:=by rw [Y,JE (by omega) (by omega)]
  have o4:P1 .add .i64 (a+c*256+d*65536+e*16777216) (g*2^32)=a+c*256+d*65536+e*16777216+g*4294967296:=by rw [Z,JE (by omega) (by omega)]
  have m:P1 .rem .i64 b 8=b % 8:=UT o;have n:P0 .geq b 8=decide (8≤b):=rfl
  rw [O,VT,P4 (by decide),show P1 .add .i64 5 0=5 by decide,ZC (z:=a) _ (by decide) rfl,Zg (by decide),Q,Ye p q,Ze2 0 p q (by decide),o0,show P1 .add .i64 0 1=1 by decide,
   VT,P4 (by decide),show P1 .add .i64 5 1=6 by decide,ZC (z:=c) _ (by decide) rfl,Zg (by decide),R,Ye r s,Ze2 8 r s (by decide),o1,show P1 .add .i64 1 1=2 by decide,
   VT,P4 (by decide),show P1 .add .i64 5 2=7 by decide,ZC (z:=d) _ (by decide) rfl,Zg (by decide),S,Ye t u,Ze2 16 t u (by decide),o2,show P1 .add .i64 2 1=3 by decide,
   VT,P4 (by decide),show P1 .add .i64 5 3=8 by decide,ZC (z:=e) _ (by decide) rfl,Zg (by decide),T,Ye v w,Ze2 24 v w (by decide),o3,show P1 .add .i64 3 1=4 by decide,
   VT,P4 (by decide),show P1 .add .i64 5 4=9 by decide,ZC (z:=g) _ (by decide) rfl,Zg (by decide),U,Ye x y,Ze2 32 x y (by decide),o4,show P1 .add .i64 4 1=5 by decide,
   VT,P3 (by decide),ZC (z:=i) _ (by decide) rfl,ZC (z:=j) _ (by decide) rfl,ZC (z:=b) _ (by decide) rfl,Zg (by decide),ZC (z:=k) _ (by decide) rfl,ZC (z:=l) _ (by decide) rfl,ZC (z:=b) _ (by decide) rfl,ZC (z:=b) _ (by decide) rfl,
   Ye A C,Ye D E,Ye o G,Ye H J,Ye M N,m,n,ZBg]
  simp only [Xd];by_cases h15:b≤15
  ·rw [P3 (by simp only [ZK,ZN,ZL,ZJ,ZI,ZG,ZM,ZO,ZP,ZF,ZE,ZH,XE,XK,Xu,XN,Xj,XF,P5,decide_eq_false_iff_not,Xw,XO,Xd,Xg,false_iff,true_iff,iff_false,iff_true];omega)];have hd:VM [i,j,b,k,l,a,c,d,e,g]=YH (J4 [i,j,b,k,l,a,c,d,e,g]):=by simp [VM,h15]
   simp only [KF,hd,J4]
   cases YH ⟨i,a+c*256+d*65536+e*16777216+g*4294967296,j,b % 8,k,l,decide (8≤b)⟩ <;> simp
  ·rw [P4 (by simp only [ZK,ZN,ZL,ZJ,ZI,ZG,ZM,ZO,ZP,ZF,ZE,ZH,XE,XK,Xu,XN,Xj,XF,P5,decide_eq_false_iff_not,Xw,XO,Xd,Xg,false_iff,true_iff,iff_false,iff_true];omega)];have:VM [i,j,b,k,l,a,c,d,e,g]=Xc:=by simp [VM,h15]
   simp [KF,this]
 ·rw [P4 (by simp only [ZK,ZN,ZL,ZJ,ZI,ZG,ZM,ZO,ZP,ZF,ZE,ZH,XE,XK,Xu,XN,Xj,XF,P5,decide_eq_false_iff_not,Xw,XO,Xd,Xg,false_iff,true_iff,iff_false,iff_true];omega)];have:VM L=Xc:=by simp [VM,h10]
  simp [KF,this]
def ZGm:∀ (j i a:Nat) (e:List Int) (b:Bool) (g:Int),5=i+j→j < a→Zq e→
  ∃ v d bad,ZfU a (Za e) b g i=Xa (v,Za d,bad)∧Zq d∧d.length≤e.length∧(bad=Xc→b=Xc∧d.length < e.length):=by
 intro j
 induction j with
 | zero =>
  intro i a e b g h m k;obtain ⟨f,rfl⟩:∃ f,a=f+1:=⟨a-1,by omega⟩;exact ⟨0,e,Xb,by rw [ZbO,P3 (by simp only [ZK,ZN,ZL,ZJ,ZI,ZG,ZM,ZO,ZP,ZF,ZE,ZH,XE,XK,Xu,XN,Xj,XF,P5,decide_eq_false_iff_not,Xw,XO,Xd,Xg,false_iff,true_iff,iff_false,iff_true];omega)],k,Xr _,fun h=>by cases h⟩
 | succ j ih =>
  intro i a e b g h m k;obtain ⟨f,rfl⟩:∃ f,a=f+1:=⟨a-1,by omega⟩;rw [ZbO,P4 (by simp only [ZK,ZN,ZL,ZJ,ZI,ZG,ZM,ZO,ZP,ZF,ZE,ZH,XE,XK,Xu,XN,Xj,XF,P5,decide_eq_false_iff_not,Xw,XO,Xd,Xg,false_iff,true_iff,iff_false,iff_true];omega),ZB]
  cases b with
  | true => exact ⟨0, e, Xb, by rw [P4 rfl], k, Xr _, fun h => by cases h⟩
  | false =>
   rw [P3 (by simp)]
   cases e with
   | nil => exact ⟨0, [], Xb, by rw [P4 (by decide)], k, Xr _, fun h => by cases h⟩
   | cons c cs =>
    have l:Zq cs:=fun z n=>k z (by simp [n]);have o:P1 .add .i64 (i:Int) 1=((i+1:Nat):Int):=by rw [JE (by omega) (by omega)];omega
    have p:Xi .u64 (P1 .mul .i64 7 (i:Int))=((7*i:Nat):Int):=by
     rw [Zfd (by omega) (by omega),Jc (by omega) (by omega)];omega
    have q:Uw (XJ 1) (Za (c::cs))=Za cs:=rfl;rw [P3 (by simp only [ZK,ZN,ZL,ZJ,ZI,ZG,ZM,ZO,ZP,ZF,ZE,ZH,XE,XK,Xu,XN,Xj,XF,P5,decide_eq_false_iff_not,Xw,XO,Xd,Xg,false_iff,true_iff,iff_false,iff_true,Xv];omega),ZC (z:=c) _ (by decide) rfl,Zg (by decide),Zg (by simp only [Xv];omega),Zg (by decide),p,Zg (by omega),q,o];by_cases hc:P0 .lss (Xi .i64 c) 128=Xb
    ·exact ⟨_,cs,Xc,by rw [P4 hc],l,by simp,fun _=>⟨rfl,by simp⟩⟩
    ·obtain ⟨v,d,bad,r,s,w,t⟩:=ih (i+1) f cs Xc (P1 .add .i64 g (P1 .shl .i64 (P1 .rem .i64 (Xi .i64 c) 128) ((7*i:Nat):Int))) (by omega) (by omega) l;exact ⟨v,d,bad,by rw [P3 hc];exact r,s,by simp;omega,fun u=>⟨rfl,by have:=(t u).2;simp;omega⟩⟩
def Zp5 {c:List Int} (d:Zq c) (b:Bool):∃ v a bad,YZ (Za c) b=Xa (v,Za a,bad)∧Zq a∧a.length≤c.length∧(bad=Xc→b=Xc∧a.length < c.length):=by
 rw [Zrs];exact ZGm 5 0 Zr c b 0 rfl (JW (by decide)) d
def Zwp {c:List Int} (d:Zq c) (b:Bool):∃ x y z a bad,Zo8 (Za c) b=Xa (x,y,z,Za a,bad)∧Zq a∧a.length≤c.length∧(bad=Xc→b=Xc∧a.length < c.length):=by
 obtain ⟨x,s,e,f,g,t,h⟩:=Zp5 d b;obtain ⟨y,u,d2,i,j,v,k⟩:=Zp5 g e;obtain ⟨z,l,m,n,o,w,p⟩:=Zp5 j d2;refine ⟨x,y,z,l,m,?_,o,by omega,fun r=>?_⟩
 ·rw [Zkb,f,Xd];dsimp only;rw [i,Xd];dsimp only;rw [n,Xd]
 ·have q:=k (p r).1;exact ⟨(h q.1).1,by omega⟩
def ZCh (v i a b:Nat) (r:List Int) (d:v < 128) (g:i≤4) (o:1≤a) (p:b≤68719476736*i) :
  ZfU a (Za (uv v++r)) Xc (b:Int) (i:Int)=Xa (((b+v*2^(7*i):Nat):Int),Za r,Xc):=by
 have h:(2:Nat)^64=18446744073709551616:=by decide
 obtain ⟨f,rfl⟩:∃ f,a=f+1:=⟨a-1,by omega⟩;have j:Xi .u64 (P1 .mul .i64 7 (i:Int))=((7*i:Nat):Int):=by rw [Zfd (by omega) (by omega),Jc (by omega) (by omega)];omega
 have k:Uw (XJ 1) (Za ((v:Int)::r))=Za r:=rfl;have l:Xi .i64 (v:Int)=(v:Int):=YK (by omega) (by omega);have m:(v:Int) % 128=((v:Nat):Int):=by omega
 have n:=ZGb (i:=i) (by omega);have e:v*2^(7*i)≤127*268435456:=Tl (by omega) n;have c:P1 .add .i64 (b:Int) ((v*2^(7*i):Nat):Int)=((b+v*2^(7*i):Nat):Int):=by rw [JE (by omega) (by omega)];omega
 rw [Y6 (by omega),P4 d,XV,XM,ZbO,P4 (by simp only [ZK,ZN,ZL,ZJ,ZI,ZG,ZM,ZO,ZP,ZF,ZE,ZH,XE,XK,Xu,XN,Xj,XF,P5,decide_eq_false_iff_not,Xw,XO,Xd,Xg,false_iff,true_iff,iff_false,iff_true];omega),P3 (by simp),ZB,P3 (by simp only [ZK,ZN,ZL,ZJ,ZI,ZG,ZM,ZO,ZP,ZF,ZE,ZH,XE,XK,Xu,XN,Xj,XF,P5,decide_eq_false_iff_not,Xw,XO,Xd,Xg,false_iff,true_iff,iff_false,iff_true,Xv];omega),ZC (z:=(v:Int)) _ (by decide) rfl,
  Zg (by decide),Zg (by simp only [Xv];omega),Zg (by decide),j,Zg (by omega),k,l,Zug (by omega),m,ZJj d (by omega),c,P4 (by simp only [ZK,ZN,ZL,ZJ,ZI,ZG,ZM,ZO,ZP,ZF,ZE,ZH,XE,XK,Xu,XN,Xj,XF,P5,decide_eq_false_iff_not,Xw,XO,Xd,Xg,false_iff,true_iff,iff_false,iff_true];omega)]
def ZGh:∀ (m v i a b:Nat) (r:List Int),v < 128^(m+1)→v < 2^40→i+m≤4→m+1 < a→b≤68719476736*i→
  ZfU a (Za (uv v++r)) Xc (b:Int) (i:Int)=Xa (((b+v*2^(7*i):Nat):Int),Za r,Xc):=by
 have o:(2:Nat)^40=1099511627776:=by decide
 have p:(2:Nat)^64=18446744073709551616:=by decide
 intro m
 induction m with
 | zero =>
  intro v i a b r g h j q k;exact ZCh v i a b r (by simpa using g) (by omega) (by omega) k
 | succ m ih =>
  intro v i a b r g h j q k;by_cases hs:v < 128
  ·exact ZCh v i a b r hs (by omega) (by omega) k
  ·obtain ⟨f,rfl⟩:∃ f,a=f+1:=⟨a-1,by omega⟩
   have l:v / 128 < 128^(m+1):=by
    rw [UJ] at g;exact UQ (by omega)
   have s:P1 .add .i64 (i:Int) 1=((i+1:Nat):Int):=by rw [JE (by omega) (by omega)];omega
   have t:Xi .u64 (P1 .mul .i64 7 (i:Int))=((7*i:Nat):Int):=by rw [Zfd (by omega) (by omega),Jc (by omega) (by omega)];omega
   have u:Uw (XJ 1) (Za (((v % 128+128:Nat):Int)::(uv (v / 128)++r)))=Za (uv (v / 128)++r):=rfl;have w:Xi .i64 ((v % 128+128:Nat):Int)=((v % 128+128:Nat):Int):=YK (by omega) (by omega);have x:((v % 128+128:Nat):Int) % 128=((v % 128:Nat):Int):=by omega
   have y:=ZGb (i:=i) (by omega);have n:v % 128*2^(7*i)≤127*268435456:=Tl (by omega) y;have c:P1 .add .i64 (b:Int) ((v % 128*2^(7*i):Nat):Int)=((b+v % 128*2^(7*i):Nat):Int):=by rw [JE (by omega) (by omega)];omega
   have d:(2:Nat)^(7*(i+1))=128*2^(7*i):=by
    rw [show 7*(i+1)=7*i+7 by omega,Nat.pow_add,Nat.mul_comm]
   have e:b+v % 128*2^(7*i)+v / 128*2^(7*(i+1))=b+v*2^(7*i):=by
    rw [d,← Nat.mul_assoc,Ui,← Nat.add_mul];congr 2;omega
   rw [Y6 (by omega),P3 hs,XV,ZbO,P4 (by simp only [ZK,ZN,ZL,ZJ,ZI,ZG,ZM,ZO,ZP,ZF,ZE,ZH,XE,XK,Xu,XN,Xj,XF,P5,decide_eq_false_iff_not,Xw,XO,Xd,Xg,false_iff,true_iff,iff_false,iff_true];omega),P3 (by simp),ZB,P3 (by simp only [ZK,ZN,ZL,ZJ,ZI,ZG,ZM,ZO,ZP,ZF,ZE,ZH,XE,XK,Xu,XN,Xj,XF,P5,decide_eq_false_iff_not,Xw,XO,Xd,Xg,false_iff,true_iff,iff_false,iff_true,Xv];omega),ZC (z:=((v % 128+128:Nat):Int)) _ (by decide) rfl,
    Zg (by decide),Zg (by simp only [Xv];omega),Zg (by decide),t,Zg (by omega),u,w,Zug (by omega),x,ZJj (by omega) (by omega),c,s,P3 (by simp only [ZK,ZN,ZL,ZJ,ZI,ZG,ZM,ZO,ZP,ZF,ZE,ZH,XE,XK,Xu,XN,Xj,XF,P5,decide_eq_false_iff_not,Xw,XO,Xd,Xg,false_iff,true_iff,iff_false,iff_true];omega),
    ih (v / 128) (i+1) f _ r l (by omega) (by omega) (by omega) (by omega),e]
def ZpN (v:Nat) (c:v < 2^35) (r:List Int):YZ (Za (uv v++r)) Xc=Xa ((v:Int),Za r,Xc):=by
 have a:(2:Nat)^35=34359738368:=by decide
 have b:(2:Nat)^40=1099511627776:=by decide
 have d:(128:Nat)^5=34359738368:=by decide
 have h:=ZGh 4 v 0 Zr 0 r (by omega) (by omega) (by omega) (JW (by decide)) (by omega);rw [show 0+v*2^(7*0)=v by simp] at h;rw [Zrs];exact h
def ZBO {i:Id} (d:Vx i=Xb) (r:List Int):Zo8 (Za (idB i++r)) Xc=Xa (i.core,i.op,i.part,Za r,Xc):=by
 obtain ⟨j,k,l,m,n,o⟩:=Zdx d;have e:(2:Nat)^35=34359738368:=by decide
 have a:=ZpN i.core.toNat (by omega) (uv i.op.toNat++(uv i.part.toNat++r));have b:=ZpN i.op.toNat (by omega) (uv i.part.toNat++r);have c:=ZpN i.part.toNat (by omega) r;have f:((i.core.toNat:Nat):Int)=i.core:=by omega
 have g:((i.op.toNat:Nat):Int)=i.op:=by omega
 have h:((i.part.toNat:Nat):Int)=i.part:=by omega
 rw [f] at a;rw [g] at b;rw [h] at c;rw [Zkb];simp only [idB,Xl,a,b,c,Xd]
def ZJU (a:List Int) (bad:Bool):ZpV (Za a) bad 10=Xa (if bad=Xb∨a.length < 10 then (E0,Za a,Xb) else (Za (a.take 10),Za (a.drop 10),Xc)):=by
 rw [Zra,ZB]
 cases bad with
 | true => rw [P4 rfl, P4 (.inl rfl)]
 | false =>
  rw [P3 (by simp),P3 (by decide)];by_cases h:a.length < 10
  ·rw [P4 (by simp only [ZK,ZN,ZL,ZJ,ZI,ZG,ZM,ZO,ZP,ZF,ZE,ZH,XE,XK,Xu,XN,Xj,XF,P5,decide_eq_false_iff_not,Xw,XO,Xd,Xg,false_iff,true_iff,iff_false,iff_true];omega),P4 (.inr h)]
  ·rw [P3 (by simp only [ZK,ZN,ZL,ZJ,ZI,ZG,ZM,ZO,ZP,ZF,ZE,ZH,XE,XK,Xu,XN,Xj,XF,P5,decide_eq_false_iff_not,Xw,XO,Xd,Xg,false_iff,true_iff,iff_false,iff_true];omega),P3 (by simp [h]),Zg (by decide),Zg (by omega),Zg (by decide),Zg (by omega)];have e:XJ 10=10:=rfl;rw [e,Zfy];simp [Za,Uq]
def s67 {a b:List Int} (c:Zq a) (d:Zq b):g67 (Za a) (Za b)=Xa (decide (a=b)):=by
 rw [Zy8,Zg (Zdb c),Zg (Zdb d)];refine congrArg Xa ?_;rw [Zm,beq_iff_eq,P5,ByteArray.toList_eq,ByteArray.toList_eq];constructor
 ·intro h;exact Zcn a b c d (by simpa [bytesOf] using h)
 ·intro h;rw [h]
def Zm1 (e:List Int) (i:Id) (p:List Id) (rest:List Int) (bad:Bool):Option ZzL:=
 (ZpV (Za rest) bad 10).bind fun (b:List (List AV)×List (List AV)×Bool)=>
 (ZyM b.1).bind fun (a:Int×Int×Int×Int×Int×Int×Bool×Int)=>
 (Zx1 i.core i.op i.part (Ze p) a.1 a.2.1 a.2.2.1 a.2.2.2.1 (d4 a).1 (d4 a).2.1 (d6 a).1).bind fun (c:List (List AV)×Int)=>
 if b.2.2=Xb then Xa (0,0,0,E0,0,0,0,0,0,0,Xc,14)
 else if (P0 .neq a.2.2.2.2.2.2.2 0)=Xb then Xa (0,0,0,E0,0,0,0,0,0,0,Xc,14)
 else if (P0 .neq c.2 0)=Xb then Xa (0,0,0,E0,0,0,0,0,0,0,Xc,14)
 else (g67 c.1 (Za e)).bind fun (d:Bool)=>
  if (!d)=Xb then Xa (0,0,0,E0,0,0,0,0,0,0,Xc,14)
  else Xa (i.core,i.op,i.part,Ze p,a.1,a.2.1,a.2.2.1,a.2.2.2.1,(d4 a).1,(d4 a).2.1,(d6 a).1,0)
def ZhF {a rest:List Int} (d:Zq a) (e:Zq rest) (i:Id) (p:List Id) (b:p.length < 2^63) (bad:Bool):Zm1 a i p rest bad=Xa (Y4 (Zff a i p rest bad)):=by
 have f:E0=Za []:=rfl;unfold Zm1 Zff;rw [ZJU,Xd];by_cases h:bad=Xb∨rest.length < 10
 ·rw [P4 h,P4 h];dsimp only;rw [f,ZIQ (by simp [Zq]) (by simp),Xd];have q:=ZDP ⟨i,p,⟨(KF []).1,(KF []).2.1,(KF []).2.2.1,(KF []).2.2.2.1,(KF []).2.2.2.2.1,(KF []).2.2.2.2.2.1,(KF []).2.2.2.2.2.2.1⟩⟩ b;dsimp only at q;rw [q,Xd];rfl
 ·rw [P3 h,P3 h];dsimp only;have c:Zq (rest.take 10):=fun z g=>e z (XS g);rw [ZIQ c (by rw [List.length_take];omega),Xd];generalize rest.take 10=L at c;unfold KF
  cases hd:VM L with
  | false =>
   rw [P3 UE];dsimp only;have q:=ZDP ⟨i,p,⟨0,0,0,0,0,0,Xc⟩⟩ b;dsimp only at q;rw [q,Xd];refine Jf (fun h=>absurd h (by decide)) fun _=>?_;refine Jf (fun _=>?_) fun h=>absurd (by decide) h;rw [P3 (by simp)];rfl
  | true =>
   rw [P4 rfl];dsimp only;have q:=ZDP ⟨i,p,J4 L⟩ b;dsimp only at q;rw [q,Xd];refine Jf (fun h=>absurd h (by decide)) fun _=>?_;refine Jf (fun h=>absurd h (by decide)) fun _=>?_;dsimp only;unfold ZpU
   cases hn:ZD ⟨i,p,J4 L⟩ with
   | false =>
    rw [P3 UE];refine Jf (fun _=>?_) fun h=>absurd (by decide) h;rw [P3 (by simp)];rfl
   | true =>
    rw [P4 rfl];refine Jf (fun h=>absurd h (by decide)) fun _=>?_;rw [s67 (ZkM _) d,Xd,show Yp ⟨i,p,J4 L⟩=Yq ⟨i,p,J4 L⟩ from P4 hn];by_cases hc:Yq ⟨i,p,J4 L⟩=a
    ·rw [P3 (by simp [hc]),P4 ⟨rfl,rfl,hc⟩];rfl
    ·rw [P4 (by simp [hc]),P3 (fun j=>hc j.2.2)];rfl
def ZIn {q:List Int} (E:Zq q) (i:Id) (c:Int) (C:List (List AV)) (G:C = []):∀ (m k b:Nat) (a:List Id) (rest:List Int) (bad:Bool),rest.length≤m→m+1 < b→Zq rest→a.length=k→k+rest.length≤1000000→
  ∃ p l d,Zfq b (Za q) 0 0 0 C 0 0 0 0 0 0 Xc i.core i.op i.part (Ze a) 0 0 0 0 0 0 Xc c (k:Int) (Za rest) bad=Xa (Y4 (Zff q i p l d)):=by
 subst G
 have fin:∀ (f k:Nat) (a:List Id) (rest:List Int) (bad:Bool),Zq rest→a.length≤2000000→(¬ ((k:Int) < c)∨bad=Xb)→
   Zfq (f+1) (Za q) 0 0 0 [] 0 0 0 0 0 0 Xc i.core i.op i.part (Ze a) 0 0 0 0 0 0 Xc c (k:Int) (Za rest) bad=Xa (Y4 (Zff q i a rest bad)):=by
  intro f k a rest bad n D s;have t:=ZhF E n i a (by omega) bad;unfold Zm1 at t;rw [WO];by_cases o:(k:Int) < c
  ·have e:bad=Xb:=s.resolve_left fun h=>h o;refine Jf (fun _=>?_) fun h=>absurd (by simp only [ZK,ZN,ZL,ZJ,ZI,ZG,ZM,ZO,ZP,ZF,ZE,ZH,XE,XK,Xu,XN,Xj,XF,P5,decide_eq_false_iff_not,Xw,XO,Xd,Xg,false_iff,true_iff,iff_false,iff_true];omega) h;refine Jf (fun h=>?_) fun _=>t;rw [e] at h
   cases h
  ·exact Jf (fun h=>absurd h (by simp only [ZK,ZN,ZL,ZJ,ZI,ZG,ZM,ZO,ZP,ZF,ZE,ZH,XE,XK,Xu,XN,Xj,XF,P5,decide_eq_false_iff_not,Xw,XO,Xd,Xg,false_iff,true_iff,iff_false,iff_true];omega)) fun _=>t
 intro m
 induction m with
 | zero =>
  intro k b a rest bad H J n D s;obtain ⟨f,rfl⟩:∃ f,b=f+2:=⟨b-2,by omega⟩;by_cases hex:¬ ((k:Int) < c)∨bad=Xb
  ·exact ⟨a,rest,bad,fin (f+1) k a rest bad n (by omega) hex⟩
  ·have o:(k:Int) < c:=by
    by_cases h:(k:Int) < c
    ·exact h
    ·exact (hex (.inl h)).elim
   have e:bad=Xc:=by
    cases bad with
    | false => rfl
    | true => exact (hex (.inr rfl)).elim
   subst e;obtain ⟨x,y,z,g,d,u,r,L,v⟩:=Zwp n Xc
   have w:d=Xb:=by
    cases d with
    | true => rfl
    | false => have := (v rfl).2; omega
   subst w;have A:P1 .add .i64 (k:Int) 1=((k+1:Nat):Int):=by rw [JE (by omega) (by omega)];omega
   have j:=Zdj a ⟨x,y,z⟩;dsimp only at j;refine ⟨a++[⟨x,y,z⟩],g,Xb,?_⟩;rw [WO,P4 (by simp only [ZK,ZN,ZL,ZJ,ZI,ZG,ZM,ZO,ZP,ZF,ZE,ZH,XE,XK,Xu,XN,Xj,XF,P5,decide_eq_false_iff_not,Xw,XO,Xd,Xg,false_iff,true_iff,iff_false,iff_true];omega),P4 (by simp),u,Xd];dsimp only;rw [Zg (WX (by rw [ZX];simp;omega)),j,A];exact fin f (k+1) _ g Xb r (by simp;omega) (.inr rfl)
 | succ m ih =>
  intro k b a rest bad H J n D s;obtain ⟨f,rfl⟩:∃ f,b=f+2:=⟨b-2,by omega⟩;by_cases hex:¬ ((k:Int) < c)∨bad=Xb
  ·exact ⟨a,rest,bad,fin (f+1) k a rest bad n (by omega) hex⟩
  ·have o:(k:Int) < c:=by
    by_cases h:(k:Int) < c
    ·exact h
    ·exact (hex (.inl h)).elim
   have e:bad=Xc:=by
    cases bad with
    | false => rfl
    | true => exact (hex (.inr rfl)).elim
   subst e;obtain ⟨x,y,z,g,d,u,r,L,v⟩:=Zwp n Xc;have A:P1 .add .i64 (k:Int) 1=((k+1:Nat):Int):=by rw [JE (by omega) (by omega)];omega
   have j:=Zdj a ⟨x,y,z⟩;dsimp only at j;rw [WO,P4 (by simp only [ZK,ZN,ZL,ZJ,ZI,ZG,ZM,ZO,ZP,ZF,ZE,ZH,XE,XK,Xu,XN,Xj,XF,P5,decide_eq_false_iff_not,Xw,XO,Xd,Xg,false_iff,true_iff,iff_false,iff_true];omega),P4 (by simp),u,Xd];dsimp only;rw [Zg (WX (by rw [ZX];simp;omega)),j,A]
   cases d with
   | true => exact ⟨_, _, _, fin f (k + 1) _ g Xb r (by simp; omega) (.inr rfl)⟩
   | false =>
    have:=(v rfl).2;exact ih (k+1) (f+1) _ g Xc (by omega) (by omega) r (by simp;omega) (by omega)
def ZGu {e:List Int} (n:Zq e) (i:Id) (r:List Int) (o:Zq r) (c:Nat) (v:c≤8):∀ (l:List Id) (k a:Nat) (b:List Id),c=k+l.length→l.length < a→b.length=k→(∀ x∈l,Vx x=Xb)→
  Zfq a (Za e) 0 0 0 [] 0 0 0 0 0 0 Xc i.core i.op i.part (Ze b) 0 0 0 0 0 0 Xc (c:Int) (k:Int) (Za ((l.map idB).flatten++r)) Xc=Xa (Y4 (Zff e i (b++l) r Xc)):=by
 intro l
 induction l with
 | nil =>
  intro k a b h d p g;obtain ⟨f,rfl⟩:∃ f,a=f+1:=⟨a-1,by simp at d;omega⟩;have s:c=k:=by simpa using h
  have m:=ZhF n o i b (by omega) Xc;unfold Zm1 at m;rw [WO,XY];exact Jf (fun h=>absurd h (by simp only [ZK,ZN,ZL,ZJ,ZI,ZG,ZM,ZO,ZP,ZF,ZE,ZH,XE,XK,Xu,XN,Xj,XF,P5,decide_eq_false_iff_not,Xw,XO,Xd,Xg,false_iff,true_iff,iff_false,iff_true];omega)) fun _=>m
 | cons x l ih =>
  intro k a b h d p g;obtain ⟨f,rfl⟩:∃ f,a=f+1:=⟨a-1,by simp at d;omega⟩;simp only [Xv] at h d;have t:P1 .add .i64 (k:Int) 1=((k+1:Nat):Int):=by rw [JE (by omega) (by omega)];omega
  have j:=Zdj b x;have q:=ZBO (g x (by simp)) ((l.map idB).flatten++r);rw [WO,P4 (by simp only [ZK,ZN,ZL,ZJ,ZI,ZG,ZM,ZO,ZP,ZF,ZE,ZH,XE,XK,Xu,XN,Xj,XF,P5,decide_eq_false_iff_not,Xw,XO,Xd,Xg,false_iff,true_iff,iff_false,iff_true];omega),P4 (by simp),Xn,XD,Xl,q,Xd];dsimp only;rw [Zg (WX (by rw [ZX];simp;omega)),j,t,ih (k+1) f _ (by omega) (by omega) (by simp;omega) (fun y u=>g y (by simp [u]))];simp [Xl]
def ZIF {a:List Int} (g:Zq a) (J:a.length≤999999):ZFU (Za a)=Xa (Y4 (Zkj a)):=by
 cases hd:Zkj a with
 | some n =>
  obtain ⟨i,l⟩:=Znj g hd;obtain ⟨j,b,m,s⟩:=Vt i;have t:(2:Nat)^35=34359738368:=by decide
  have c:Zq (Jv n.cap):=by
   have:=ZiE n.cap
   rwa [ZBi b] at this
  obtain ⟨h,d2⟩:=Zo4 b;rw [ZBi b] at h d2;have u:=ZBO j (uv n.path.length++((n.path.map idB).flatten++Jv n.cap));have w:=ZpN n.path.length (by omega) ((n.path.map idB).flatten++Jv n.cap);have o:=ZGu g n.id (Jv n.cap) c n.path.length m n.path 0 Zr [] (by omega) (JW (by omega)) rfl fun x A=>Zg8 i x A
  have k:Za a=Za (idB n.id++(uv n.path.length++((n.path.map idB).flatten++Jv n.cap))):=by
   rw [← l];simp [Yq,Xl]
  have d:Zff a n.id n.path (Jv n.cap) Xc=Xa n:=by
   have e:(Jv n.cap).length=10:=rfl;unfold Zff;rw [P3 (by rw [e];simp),UM (by omega),h,P4 ⟨d2,i,l⟩]
  rw [XM,d] at o;rw [ZpO];have f:=u;rw [← k] at f;rw [f,Xd];dsimp only;rw [w,Xd];exact o
 | none =>
  obtain ⟨x,y,z,L,h,j,b,m,s⟩:=Zwp g Xc;obtain ⟨v,q,d2,C,D,M,N⟩:=Zp5 b h;obtain ⟨p,r,bad,E⟩:=ZIn g ⟨x,y,z⟩ v [] rfl q.length 0 Zr [] q d2 (Xr _) (JW (by omega)) D rfl (by omega);rw [ZpO,j,Xd];dsimp only;rw [C,Xd];dsimp only;refine E.trans ?_
  cases hf:Zff a ⟨x,y,z⟩ p r bad with
  | none => rfl
  | some n =>
   obtain ⟨G,H⟩:=ZnM hf;have:=Zba G;rw [H,hd] at this
   cases this
end
end Go.Proofs.YtjldbnbdcmfbmaaGreat
