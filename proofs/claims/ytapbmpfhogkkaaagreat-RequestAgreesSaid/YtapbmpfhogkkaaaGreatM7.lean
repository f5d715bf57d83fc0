/- Mtf, Mtg, Mth: texts of the proof, put together. -/
import Derived.Test.YtapbmpfhogkkaaaGreatM6

section
namespace Go.Proofs.YtapbmpfhogkkaaaGreat
open Go Go.AM
set_option linter.unusedSimpArgs false
set_option linter.unusedVariables false
set_option maxRecDepth 100000
def Zj4 (rs:List Reg):Prop:=∀ (i:Nat) (h:i < rs.length),rs[i].base=((i:Int)+1)*262144∧15≤rs[i].bits∧rs[i].bits≤17
def Zpk (r:LL×Int×Int×LL×LL):Prop:=∃ (n p:Int) (ws:List Int) (rs:List Reg) (os:List Int),r=(Zd ws,n,p,rs.map JO,Zd os)∧(1≤ws.length∧ws.length≤4)∧(1≤rs.length∧rs.length≤3)∧os.length=rs.length∧(∀ w∈ws,w=32∨w=39)∧(4≤p∧p≤10)∧(1≤n∧n≤(ws.length:Int))∧Zj4 rs∧∀ x∈os,0≤x∧x < n
theorem Zqe (l:List Int) (x1 x4 x5:LL) (x2 x3:Int) (ws:List Int) (h1:1≤ws.length) (h2:ws.length≤4) (hw:∀ w∈ws,w=32∨w=39) (x7 x8:Int) (h7:1≤x7) (h7':x7≤(ws.length:Int)) (h8:4≤x8∧x8≤10) (q:Nat) (hq1:1≤q) (hq:q≤3) :
  Ret Zpk (Zh2 ZZ (Zd l) x1 x2 x3 x4 x5 (Zd ws) x7 x8 E0 E0 (q:Int) 0):=by
 refine Zw (F:=fun k (s:LL×LL) z=>Zh2 k (Zd l) x1 x2 x3 x4 x5 (Zd ws) x7 x8 s.1 s.2 (q:Int) z) q (fun i s=>∃ (rs:List Reg) (os:List Int),s=(rs.map JO,Zd os)∧rs.length=i∧os.length=i∧Zj4 rs∧∀ x∈os,0≤x∧x < x7) (by omega) ?_ (E0,E0) ⟨[],[],rfl,rfl,rfl,fun i h=>absurd h (Nat.not_lt_zero _),fun x hx=>(by cases hx)⟩
 rintro k i s hi ⟨rs,os,rfl,hr,ho,hro,hos⟩ next
 refine Zk (ZiP ..) ?_
 refine Zb (fun hlt=>?_) fun hge=>?_
 ·simp only [CQ] at hlt
  refine Zc (by decide) ?_
  refine Ze (WF l _) fun v1 _=>Ze (place v1 3 (by decide) (by decide)) fun b hb=>Ze (WF l _) fun v2 _=>Ze (place v2 5 (by decide) (by decide)) fun d _=>?_
  refine Zc (Y8 (by simp;omega)) (Zc (Y8 (by simp;omega)) (Zc (Y8 (by simp [Z2];omega)) ?_))
  refine Ze (WF l _) fun v3 _=>Ze (place v3 x7 h7 (by omega)) fun w hw'=>?_
  refine Zc (Y8 (by simp [Z2];omega)) ?_
  simp only [JU hi (by omega)]
  have eb:iop .add .i64 15 b=15+b:=J5 (by omega) (by omega)
  have p18:(2:Int)^(18:Int).toNat=262144:=by decide
  have es:iop .shl .i64 ((i+1:Nat):Int) 18=((i:Int)+1)*262144:=by
   rw [Zo3 (by decide) (by decide) (by omega) (by rw [p18];omega),p18]
   omega
  refine next (by omega) (_,_) ⟨rs++[⟨iop .shl .i64 ((i+1:Nat):Int) 18,iop .add .i64 15 b,cop .eql d 4⟩],os++[w],by simp [Zd,Zk0,JO],by simp [hr],by simp [ho],fun t ht=>?_,fun x hx=>?_⟩
  ·by_cases htl:t < rs.length
   ·simp only [List.getElem_append_left htl];exact hro t htl
   ·have:t=rs.length:=by simp at ht;omega
    subst this
    simp only [List.getElem_append_right (Nat.le_refl _),Nat.sub_self,List.getElem_cons_zero]
    rw [es,eb,hr]
    exact ⟨rfl,by omega,by omega⟩
  ·rcases List.mem_append.1 hx with hx | hx
   ·exact hos x hx
   ·rw [List.mem_singleton] at hx;subst hx;exact hw'
 ·simp only [CQ] at hge
  exact Za ⟨_,_,ws,rs,os,rfl,⟨h1,h2⟩,⟨by omega,by omega⟩,by omega,hw,h8,⟨h7,h7'⟩,hro,hos⟩
theorem ZqX (l:List Int):Ret Zpk (g13 (Zd l)):=by
 rw [ZnN]
 refine Ze (WF l 0) fun v1 _=>Ze (place v1 4 (by decide) (by decide)) fun a ha=>?_
 have ea:iop .add .i64 1 a=1+a:=J5 (by omega) (by omega)
 rw [ea]
 refine Ze (WF l 1) fun v2 _=>Ze (place v2 (1+a) (by omega) (by omega)) fun b hb=>?_
 refine Ze (WF l 2) fun v3 _=>Ze (place v3 7 (by decide) (by decide)) fun c hc=>Ze (WF l 3) fun v4 _=>Ze (place v4 3 (by decide) (by decide)) fun d hd=>?_
 have eb:iop .add .i64 1 b=1+b:=J5 (by omega) (by omega)
 have ed:iop .add .i64 1 d=1+d:=J5 (by omega) (by omega)
 have ec:iop .add .i64 4 c=4+c:=J5 (by omega) (by omega)
 rw [eb,ed,ec]
 obtain ⟨n,hn⟩:∃ n:Nat,1+a=n:=⟨(1+a).toNat,by omega⟩
 obtain ⟨q,hq⟩:∃ q:Nat,1+d=q:=⟨(1+d).toNat,by omega⟩
 rw [hn,hq]
 refine Zw (F:=fun k (s:LL) z=>Zjh k (Zd l) E0 0 0 E0 E0 (n:Int) s (1+b) (4+c) E0 E0 (q:Int) z) n (fun i s=>∃ ws,s=Zd ws∧ws.length=i∧∀ w∈ws,w=32∨w=39) (by omega) ?_ E0 ⟨[],rfl,rfl,fun x hx=>(by cases hx)⟩
 rintro k i s hi ⟨ws,rfl,hw,hws⟩ next
 refine Zk (Zjb ..) ?_
 refine Zb (fun hlt=>?_) fun hge=>?_
 ·simp only [CQ] at hlt
  refine Zc (Y8 (by simp [Z2];omega)) ?_
  refine Ze (WF l _) fun v _=>Ze (place v 2 (by decide) (by decide)) fun w hw'=>?_
  refine ZgJ hw'.1 hw'.2 fun x hx=>?_
  refine Zc (Y8 (by simp [Z2];omega)) ?_
  rw [JU hi (by omega)]
  refine next (by omega) _ ⟨ws++[x],by simp [Zd,Zk0],by simp [hw],fun y hy=>?_⟩
  rcases List.mem_append.1 hy with hy | hy
  ·exact hws y hy
  ·rw [List.mem_singleton] at hy;subst hy;exact hx
 ·simp only [CQ] at hge
  exact Zqe l _ _ _ _ _ ws (by omega) (by omega) hws (1+b) _ (by omega) (by omega) ⟨by omega,by omega⟩ q (by omega) (by omega)
theorem s4w (l:List Int):Ret (fun r=>Zpk r∧r.2.1=(r.1.length:Int)) (g4 (Zd l)):=by
 rw [ZpD]
 refine Ze (ZqX l) fun r ⟨n,p,ws,rs,os,e,h1,h2,h3,h4,h5,h6,h7,h8⟩=>?_
 subst e
 refine Za ⟨⟨_,_,ws,rs,os,rfl,h1,h2,h3,h4,h5,⟨by rw [Z2];omega,by rw [Z2];exact Int.le_refl _⟩,h7,fun x hx=>⟨(h8 x hx).1,by have:=(h8 x hx).2;rw [Z2];omega⟩⟩,rfl⟩
theorem ZeM {i:Nat} (hi:i < 3) {b:Int} (h1:15≤b) (h2:b≤17):JN (((i:Int)+1)*262144) b=true∧2^b.toNat≤(131072:Int):=by
 have h15:(2:Int)^(15:Int).toNat=32768:=by decide
 have h16:(2:Int)^(16:Int).toNat=65536:=by decide
 have h17:(2:Int)^(17:Int).toNat=131072:=by decide
 simp only [JN,decide_eq_true_eq]
 rcases (by omega:b=15∨b=16∨b=17) with rfl | rfl | rfl
 ·rw [h15];omega
 ·rw [h16];omega
 ·rw [h17];omega
theorem Zlq {i k:Nat} (hk:k < i) (hi:i < 3) {b c:Int} (h1:15≤b) (h2:b≤17) (h3:15≤c) (h4:c≤17):Zks (((i:Int)+1)*262144) b (((k:Int)+1)*262144) c=false:=by
 obtain ⟨a1,a2⟩:=ZeM (i:=i) hi h1 h2
 obtain ⟨b1,b2⟩:=ZeM (i:=k) (by omega) h3 h4
 rw [← Bool.not_eq_true]
 intro h
 simp only [Zks,Bool.and_eq_true,decide_eq_true_eq] at h
 have e:Yr (((k:Int)+1)*262144) c=((k:Int)+1)*262144+2^c.toNat:=by simp only [Yr,b1,if_true]
 have:=h.1.2
 rw [e] at this
 omega
theorem ZqB (ws:List Int) (p:Int) (rs:List Reg) (os:List Int) (hw:1≤ws.length∧ws.length≤4) (hr:1≤rs.length∧rs.length≤3) (ho:os.length=rs.length) (hww:∀ w∈ws,w=32∨w=39) (hp:4≤p∧p≤10) (hro:Zj4 rs) (hos:∀ x∈os,0≤x∧x < (ws.length:Int)) :
  g14 (Zd ws) (ws.length:Int) p (rs.map JO) (Zd os)=some true:=by
 have key:Ret (fun r=>r=true) (g14 (Zd ws) (ws.length:Int) p (rs.map JO) (Zd os)):=by
  have lw:(List.length (Zd ws):Int)=ws.length:=by rw [Z2]
  have lr:(List.length (rs.map JO):Int)=rs.length:=by simp
  have lo:(List.length (Zd os):Int)=os.length:=by rw [Z2]
  rw [Zmr,lw,lr,lo]
  refine Zb (fun q=>by simp only [CQ] at q;omega) fun _=>Zb (fun q=>by simp only [CQ] at q;omega) fun _=>Zb (fun q=>by simp only [CQ] at q;omega) fun _=>Zb (fun q=>by simp only [CQ] at q;omega) fun _=>Zb (fun q=>by simp only [CQ] at q;omega) fun _=>Zb (fun q=>by simp only [CQ] at q;omega) fun _=>Zb (fun q=>by simp only [CQ] at q;omega) fun _=>Zb (fun q=>by simp only [CQ] at q;omega) fun _=>?_
  refine Zw (F:=fun k (_:Unit) z=>ZgV k (Zd ws) (ws.length:Int) p (rs.map JO) (Zd os) z) ws.length (fun _ _=>True) (by omega) ?_ () trivial
  intro k i s hi _ next
  refine Zk (Zjt ..) (Zb (fun hlt=>?_) fun _=>?_)
  ·simp only [CQ,Z2] at hlt
   have ni:i < ws.length:=Int.ofNat_lt.1 hlt
   have hx:=hww _ (List.getElem_mem ni)
   refine Zk (J0 ni _) (Zb (fun q=>Zk (J0 ni _) (Zb (fun q2=>?_) fun _=>?_)) fun _=>?_)
   ·simp only [CQ] at q q2;omega
   ·rw [JU hi (by omega)];exact next ni () trivial
   ·rw [JU hi (by omega)];exact next ni () trivial
  ·refine Zw (F:=fun k (_:Unit) z=>Zk1 k (Zd ws) (ws.length:Int) p (rs.map JO) (Zd os) z) rs.length (fun _ _=>True) (by omega) ?_ () trivial
   intro k i s hi _ next
   refine Zk (Zjz ..) (Zb (fun hlt=>?_) fun _=>Za rfl)
   simp only [CQ,List.length_map] at hlt
   have ni:i < rs.length:=Int.ofNat_lt.1 hlt
   have no:i < os.length:=by omega
   have hx:=hos _ (List.getElem_mem no)
   obtain ⟨r1,r2,r3⟩:=hro i ni
   refine Zk (J0 no _) (Zb (fun q=>by simp only [CQ] at q;omega) fun _=>Zk (J0 no _) (Zb (fun q=>by simp only [CQ] at q;omega) fun _=>Zk (Y4 ni _) ?_))
   refine Zf (s34 ..) (Zf (s33 ..) (Zb (fun q=>?_) fun _=>?_))
   ·have:=(ZeM (i:=i) (by omega) r2 r3).1
    rw [← r1] at this
    rw [this] at q
    cases q
   refine Zw (F:=fun k2 (_:Unit) z=>Zkp (F14.lp [1,1,1,1,1,1,1,1,0,1,0] 0 r0 k) k2 (Zd ws) (ws.length:Int) p (rs.map JO) (Zd os) (i:Int) z) i (fun _ _=>True) (by omega) ?_ () trivial
   intro k2 t s2 ht _ next2
   refine Zk (Zjo ..) (Zb (fun hlt2=>?_) fun _=>?_)
   ·simp only [CQ] at hlt2
    have nt:t < i:=Int.ofNat_lt.1 hlt2
    have nt':t < rs.length:=Nat.lt_trans nt ni
    obtain ⟨t1,t2,t3⟩:=hro t nt'
    refine Zk (Y4 ni _) (Zf (s34 ..) (Zk (Y4 nt' _) (Zf (s34 ..) (Zf (s35 ..) (Zb (fun q=>?_) fun _=>?_)))))
    ·have:=Zlq nt (by omega) r2 r3 t2 t3
     rw [← r1,← t1] at this
     rw [this] at q
     cases q
    ·rw [JU ht (by omega)];exact next2 nt () trivial
   ·rw [JU hi (by omega)]
    exact next ni () trivial
 obtain ⟨r,e,rfl⟩:=key
 exact e
theorem ZdG {α:Type} (f:α→α):∀ (a:List α) (x:α) (b:List α),(a++x::b).modify a.length f=a++f x::b
 | [], x, b => rfl
 | y :: a, x, b => by simpa using ZdG f a x b
def mm (i n:Nat):LL:=List.replicate i [B true]++List.replicate (n-i) [B false]
theorem ZkS {i n:Nat} (h:i < n):Zp (mm i n) i 0 [B true]=mm (i+1) n:=by
 obtain ⟨q,rfl⟩:∃ q,n=i+q+1:=⟨n-i-1,by omega⟩
 unfold Zp mm
 rw [show i+q+1-i=q+1 by omega,show i+q+1-(i+1)=q by omega,List.replicate_succ (n:=q)]
 have:=ZdG (fun x=>setCells x 0 [B true]) (List.replicate i [B true]) [B false] (List.replicate q [B false])
 rw [List.length_replicate] at this
 rw [this,show setCells [B false] 0 [B true] = [B true] from rfl,List.replicate_succ' (n:=i),List.append_assoc]
 rfl
theorem s5w (ws:List Int) (p:Int) (rs:List Reg) (os:List Int) (hw:1≤ws.length∧ws.length≤4) (hr:1≤rs.length∧rs.length≤3) (ho:os.length=rs.length) (hww:∀ w∈ws,w=32∨w=39) (hp:4≤p∧p≤10) (hro:Zj4 rs) (hos:∀ x∈os,0≤x∧x < (ws.length:Int)) :
  Ret (fun r=>∃ m,r=mT m∧m.ws=ws∧m.p=p∧m.rs=rs∧WfM m 0) (g5 (Zd ws) (ws.length:Int) p (rs.map JO) (Zd os)):=by
 have lw:(List.length (Zd ws):Int)=ws.length:=by rw [Z2]
 have mk:∀ k,k≤100→ZaB (ws.length:Int) k:=fun k hk=>by
  unfold ZaB Jp
  refine ⟨by omega,?_⟩
  rw [Int.toNat_natCast]
  have:ws.length*(k+1)≤4*101:=Nat.mul_le_mul hw.2 (by omega)
  omega
 rw [Zpe,lw,ZqB ws p rs os hw hr ho hww hp hro hos,Option.bind_some]
 refine Zb (fun q=>by cases q) fun _=>Zc (mk _ (by decide)) (Zc (Int.le_refl _) (Zc (Int.le_refl _) (Zc (mk _ (by decide)) (Zc (Int.le_refl _) (Zc (Int.le_refl _) (Zc (mk _ (by decide)) (Zc (Int.le_refl _) (Zc (Int.le_refl _) ?_))))))))
 rw [Int.toNat_natCast]
 refine Zw (F:=fun k (s:LL×LL) z=>Zoz k (Zd ws) (ws.length:Int) p (rs.map JO) (Zd os) z (Zd ws) (ws.length:Int) p (rs.map JO) (Zd os) E0 (List.replicate ws.length [AV.slice false 4 E0]) s.1 s.2 E0) ws.length (fun i s=>s=(mm i ws.length,mm i ws.length)) (by omega) ?_ (List.replicate ws.length [B false],List.replicate ws.length [B false]) (by simp [mm])
 rintro k i s hi rfl next
 have ml:(mm i ws.length).length=ws.length:=by simp [mm];omega
 refine Zk (ZlY ..) (Zb (fun hlt=>?_) fun hge=>?_)
 ·simp only [CQ] at hlt
  have ni:i < ws.length:=Int.ofNat_lt.1 hlt
  have hb:(i:Int) < (List.length (mm i ws.length):Int):=by rw [ml];exact hlt
  refine Zc (by omega) (Zc hb (Zc (by omega) (Zc hb (Zc (by omega) (Zc hb (Zc (by omega) (Zc hb ?_)))))))
  rw [JU hi (by omega),Int.toNat_natCast]
  exact next ni (_,_) (Prod.ext (ZkS ni) (ZkS ni))
 ·simp only [CQ] at hge
  have hie:i=ws.length:=by omega
  subst hie
  refine Za ⟨⟨ws,(ws.length:Int),p,rs,Zd os,[],List.replicate ws.length [AV.slice false 4 E0],mm ws.length ws.length,mm ws.length ws.length,[]⟩,rfl,rfl,rfl,rfl,⟨hw.1,hw.2,hww,by show 1≤p;omega,by show p≤12;omega,hr.1,hr.2,by simp [mm],by simp,fun c hc=>⟨[],List.eq_of_mem_replicate hc,Yw 0⟩,⟨fun e he=>(by cases he),List.Pairwise.nil⟩,Nat.le_refl _,Nat.le_refl _,fun c hc=>(by cases hc)⟩⟩
theorem s8w (ws:List Int) (n p:Int) (rs:List Reg) (os:LL) (k w0 w1 w2 w3 w4 w5 w6 w7 w8:Int) (h1:1≤ws.length) (h2:ws.length≤4) (h3:1≤rs.length) (h4:rs.length≤3) (hp:1≤p∧p≤100) :
  Ret (fun r=>∃ c:Call,r=Zm2 c∧c.count≤1000∧1≤c.kind) (g8 (Zd ws) n p (rs.map JO) os k w0 w1 w2 w3 w4 w5 w6 w7 w8):=by
 rw [Zo7]
 refine Ze (place _ _ (by decide) (by decide)) fun a ha=>Ze (place _ _ hp.1 (by omega)) fun b hb=>Ze (place _ _ hp.1 (by omega)) fun d hd=>Ze (place _ _ (by decide) (by decide)) fun e he=>?_
 have lr:(List.length (rs.map JO):Int)=rs.length:=by simp
 have lw:(List.length (Zd ws):Int)=ws.length:=by simp [Z2]
 have ek:iop .add .i64 1 a=1+a:=J5 (by omega) (by omega)
 have cr:∀ {a1 a2 a3 a4 a5 a6 a7 a8 a9 a10 a11 a12:Int},a10≤1000→1≤a1→Ret (fun r=>∃ c:Call,r=Zm2 c∧c.count≤1000∧1≤c.kind) (some (a1,a2,a3,a4,a5,a6,a7,a8,a9,a10,a11,a12)):=fun h h'=>Za ⟨⟨_,_,_,_,_,_,_,_,_,_,_,_⟩,rfl,h,h'⟩
 rw [ek]
 have k1:1≤1+a:=by omega
 refine Zb (fun _=>?_) fun _=>Zb (fun _=>?_) fun _=>Zb (fun _=>?_) fun _=>Zb (fun _=>?_) fun _=>Zb (fun _=>?_) fun _=>Zb (fun _=>?_) fun _=>cr (by decide) k1
 ·rw [lr]
  refine Ze (place _ _ (by omega) (by omega)) fun r hr=>WI hr.1 (by omega) fun g=>Ze (place _ _ (by decide) (by decide)) fun x hx=>Ze (place _ _ (by decide) (by decide)) fun y _=>?_
  refine Zc (Ki _) (cr (by decide) k1)
 ·refine Ze (place _ _ (by decide) (by decide)) fun x hx=>Ze (place _ _ (by decide) (by decide)) fun y hy=>?_
  rw [show iop .sub .i64 (iop .add .i64 1 x) 1=x by rw [J5 (by omega) (by omega),ZdI (by omega) (by omega)];omega]
  refine JP (l:=[iop .add .i64 12 y,12,12,6,10,16]) hx.1 (by simp;omega) ?_
  refine Ze (place _ _ (by decide) (by decide)) fun _ _=>Ze (place _ _ (by decide) (by decide)) fun z hz=>Ze (place _ _ (by decide) (by decide)) fun _ _=>Zc ?_ (cr ?_ k1)
  ·refine Ki _
  ·rw [J5 (by omega) (by omega)];omega
 ·rw [lw]
  exact Ze (place _ _ (by omega) (by omega)) fun _ _=>cr (by decide) k1
 ·exact Ze (place _ _ (by decide) (by decide)) fun _ _=>cr (by decide) k1
 ·exact Ze (place _ _ (by decide) (by decide)) fun _ _=>cr (by decide) k1
 ·refine Ze (place _ _ (by decide) (by decide)) fun _ _=>?_
  rw [lw]
  exact Ze (place _ _ (by omega) (by omega)) fun v hv=>JP hv.1 (by omega) (Ze (s21 _ _) fun _ _=>cr (by decide) k1)
end Go.Proofs.YtapbmpfhogkkaaaGreat
end

section
namespace Go.Proofs.YtapbmpfhogkkaaaGreat
open Go Go.AM
set_option linter.unusedSimpArgs false
set_option linter.unusedVariables false
set_option maxRecDepth 100000
theorem s11 (m:Mc) {n:Nat} (hm:m.mem=List.replicate n [B true]) (hn:n≤100):g11 (Zd m.ws) m.st m.p (m.rs.map JO) m.os (m.l.map Zm) m.tabs m.mem m.been (m.cr.map crc)=some (Zd ((List.range n).map fun (i:Nat)=>(i:Int)),mT m):=by
 have hl:=ZhI m hm
 have key:Ret (fun r=>r=(Zd ((List.range n).map fun (i:Nat)=>(i:Int)),mT m)) (g11 (Zd m.ws) m.st m.p (m.rs.map JO) m.os (m.l.map Zm) m.tabs m.mem m.been (m.cr.map crc)):=by
  rw [ZnS]
  refine Zw (F:=fun q (s:LL) z=>Zhk q (Zd m.ws) m.st m.p (m.rs.map JO) m.os (m.l.map Zm) m.tabs m.mem m.been (m.cr.map crc) s z) n (fun i s=>s=Zd ((List.range i).map fun (i:Nat)=>(i:Int))) (by omega) ?_ E0 rfl
  rintro q i s hi rfl next
  refine Zk (Zjv ..) (Zb (fun hlt=>?_) fun hge=>?_)
  ·simp only [CQ] at hlt
   rw [hl] at hlt
   have ni:i < n:=Int.ofNat_lt.1 hlt
   refine Zc (by omega) (Zc (by rw [hl];exact hlt) ?_)
   refine Zk (YO (sh:=[.bool]) (cs:=[B true]) (r:=true) _ (by omega) (by rw [hm,Int.toNat_natCast,List.getElem?_replicate,if_pos ni]) rfl) (Zb (fun _=>Zc (Zh (by rw [Z2];simp;omega) (by decide)) ?_) fun h=>absurd rfl h)
   rw [JU hi (by omega)]
   exact next ni _ (by simp [Zd,Zk0,List.range_succ])
  ·simp only [CQ] at hge
   rw [hl] at hge
   have:i=n:=by omega
   subst this
   exact Za rfl
 obtain ⟨r,e,rfl⟩:=key
 exact e
theorem ZlO (n:Nat) (x:Int):(((List.range n).map fun (i:Nat)=>(i:Int)).any fun y=>decide (x=y))=decide (0≤x∧x < (n:Int)):=by
 rw [Z6,List.any_eq_true,decide_eq_true_eq]
 constructor
 ·rintro ⟨y,hy,h⟩
  obtain ⟨i,hi,rfl⟩:=List.mem_map.1 hy
  rw [decide_eq_true_eq] at h
  have:=List.mem_range.1 hi
  omega
 ·intro h
  exact ⟨x,List.mem_map.2 ⟨x.toNat,List.mem_range.2 (by omega),by omega⟩,by simp⟩
theorem s9 (m:Mc) (h:ZiN m.l):g9 (Zd m.ws) m.st m.p (m.rs.map JO) m.os (m.l.map Zm) m.tabs m.mem m.been (m.cr.map crc)=some (m.l.map Zm,mT m):=by rw [Zpb,s22 m.l h,Option.bind_some]
def Ys (l:List ZT) (k:Int) (i:Nat):YB:=⟨atN (atE l k (i:Int)),0,zid⟩
def V2 (l:List ZT) (k:Int) (q:Nat):List YB:=(List.range q).map (Ys l k)
theorem ZhZ (l:List ZT) (k:Int) (q:Nat):(V2 l k q).length=q:=by simp [V2]
theorem ZaE (l:List ZT) (k:Int) (q i:Nat):(V2 l k q)[i]? = if i < q then some (Ys l k i) else none:=by
 unfold V2
 rw [List.getElem?_map]
 split
 ·rename_i h;rw [List.getElem?_range h];rfl
 ·rename_i h;rw [List.getElem?_eq_none (by simp;omega)];rfl
theorem ZlT {w:Nat} {p:Int} {rs:List Reg} {j:Nat} {l:List ZT} (h:LOk w p rs j l) {t:Nat} (ht:t < l.length) (k:Int) (q:Nat) :
  (if l[t].core=k then (V2 (l.take t) k q).modify l[t].slot.toNat (fun s=>{ s with node:=l[t].node }) else V2 (l.take t) k q)=V2 (l.take (t+1)) k q:=by
 have tk:l.take (t+1)=l.take t++[l[t]]:=by rw [List.take_add_one,List.getElem?_eq_getElem ht];rfl
 have s0:=(h.ent _ (List.getElem_mem ht)).s0
 have no:∀ s,plE k s l[t]=true→atE (l.take t) k s=none:=by
  intro s hs
  refine List.find?_eq_none.2 fun x hx hp=>?_
  obtain ⟨u,hu,rfl⟩:=List.getElem_of_mem hx
  rw [List.length_take] at hu
  rw [List.getElem_take] at hp
  have:=List.pairwise_iff_getElem.1 h.pl u t (by omega) ht (by omega)
  simp only [plE,Bool.and_eq_true,decide_eq_true_eq] at hs hp
  exact this ⟨hp.1.trans hs.1.symm,hp.2.trans hs.2.symm⟩
 have fy:∀ s,plE k s l[t]=true→atE (l.take (t+1)) k s=some l[t]:=fun s hs=>by
  have:=no s hs
  unfold atE at this ⊢
  rw [tk,List.find?_append,this,List.find?_cons,hs]
  rfl
 have fn:∀ s,plE k s l[t]=false→atE (l.take (t+1)) k s=atE (l.take t) k s:=fun s hs=>by
  unfold atE
  rw [tk,List.find?_append,List.find?_cons,hs,List.find?_nil,Option.or_none]
 split
 ·rename_i hc
  apply List.ext_getElem?
  intro i
  rw [List.getElem?_modify,ZaE,ZaE]
  by_cases hi:i < q
  ·rw [if_pos hi,if_pos hi]
   show some (if l[t].slot.toNat=i then _ else _)=some _
   by_cases he:l[t].slot.toNat=i
   ·have hp:plE k (i:Int) l[t]=true:=by simp only [plE,Bool.and_eq_true,decide_eq_true_eq];exact ⟨hc,by omega⟩
    rw [if_pos he,Ys,Ys,fy _ hp]
    rfl
   ·have hp:plE k (i:Int) l[t]=false:=by rw [← Bool.not_eq_true];intro hh;simp only [plE,Bool.and_eq_true,decide_eq_true_eq] at hh;omega
    rw [if_neg he,Ys,Ys,fn _ hp]
  ·rw [if_neg hi,if_neg hi]
   rfl
 ·rename_i hc
  apply List.ext_getElem?
  intro i
  rw [ZaE,ZaE]
  have hp:plE k (i:Int) l[t]=false:=by rw [← Bool.not_eq_true];intro hh;simp only [plE,Bool.and_eq_true,decide_eq_true_eq] at hh;exact hc hh.1
  rw [Ys,Ys,fn _ hp]
theorem Ze8 {l:List ZT} (hE:∀ e∈l,Jt e.node=true) (k:Int) (i:Nat):YP (Ys l k i) = !(atE l k (i:Int)).isSome:=by
 unfold YP Ys
 cases ha:atE l k (i:Int) with
 | none => exact decide_eq_true (show YG.id = zid from rfl)
 | some e =>
  have:=(Jr (hE e (List.mem_of_find?_eq_some ha))).1
  simp only [Zdx,decide_eq_true_eq] at this
  refine decide_eq_false fun h=>?_
  have h':e.node.id=zid:=h
  rw [h'] at this
  have:(zid:Id).op=0:=rfl
  omega
theorem Zet {l:List ZT} (hE:∀ e∈l,Jt e.node=true) (k:Int) {q:Nat} {d c:Int} (hd:0≤d) (hc:0≤c) (h:d+c≤(q:Int)):Zeu (V2 l k q) d c=tkB l k d c:=by
 have e:Zl8 (V2 l k q) d c=(List.range c.toNat).map fun i=>Ys l k (d.toNat+i):=by
  unfold Zl8
  apply List.ext_getElem?
  intro i
  rw [List.getElem?_take,List.getElem?_drop,ZaE,List.getElem?_map]
  by_cases hi:i < c.toNat
  ·rw [if_pos hi,if_pos (by omega),List.getElem?_range hi];rfl
  ·rw [if_neg hi,List.getElem?_eq_none (by simp;omega)];rfl
 unfold Zeu tkB
 rw [e,List.any_map]
 congr 1
 funext i
 show (!YP (Ys l k (d.toNat+i)))=_
 rw [Ze8 hE,Bool.not_not]
 congr 2
 omega
theorem ZlC {l:List ZT} {k:Int} {q:Nat} {z:Int} (h0:0≤z) (h1:z < (q:Int)):getS (V2 l k q) z=⟨atN (atE l k z),0,zid⟩:=by
 unfold getS
 rw [ZaE,if_pos (by omega)]
 show Ys l k z.toNat=_
 unfold Ys
 rw [Int.toNat_of_nonneg h0]
set_option maxHeartbeats 4000000 in
theorem agree {m:Mc} {j:Nat} (h:WfM m j) {k:Int} (hk:0≤k∧k < (m.ws.length:Int)) {c:Call} (hk1:1≤c.kind) (hk6:c.kind≤6) {e:Int} (h1:c.kind=1→Ze1 m k c e) (h2:2≤c.kind→c.kind≤6→Zfd m k c e) {pe:Int}
  (hpe:pe=(ZcZ k 100 (wOf m k) (V2 m.l k m.p.toNat) m.rs ((List.range m.ws.length).map fun (i:Nat)=>(i:Int)) c).2.2) :
  (pe≠0→e=pe)∧(pe=0→e=0∨e=7∨(c.kind=4∧e=3)):=by
 have hE:∀ e∈m.l,Jt e.node=true:=fun e he=>(h.lok.ent e he).ok
 have hp0:=h.p0
 have hw4:=h.w4
 have hq:((m.p.toNat:Nat):Int)=m.p:=by omega
 have hsl:((V2 m.l k m.p.toNat).length:Int)=m.p:=by rw [ZhZ];exact hq
 have hwid:wOf m k=32∨wOf m k=39:=by
  have kt:k.toNat < m.ws.length:=by omega
  have:wOf m k=m.ws[k.toNat]:=by simp [wOf,kt]
  rw [this]
  exact h.ww _ (List.getElem_mem kt)
 have hargs:ZdW k 100 (wOf m k) (V2 m.l k m.p.toNat).length c=wfB k m.p c:=by
  unfold ZdW
  rw [hsl,decide_eq_true ⟨hk.1,by omega,by decide,by decide,hwid⟩,Bool.true_and]
 have hbusy:ZeO (V2 m.l k m.p.toNat) c=false:=by
  unfold ZeO
  rw [List.any_eq_false]
  intro x _
  rw [ZhP (fun s hs=>?_) x]
  ·decide
  ·obtain ⟨i,_,rfl⟩:=List.mem_map.1 hs
   exact ⟨rfl,rfl⟩
 unfold ZcZ at hpe
 rw [hargs,hbusy] at hpe
 cases hw:wfB k m.p c with
 | false =>
  rw [hw,if_pos rfl] at hpe
  have nw:=of_decide_eq_false hw
  have hpe1:pe=1:=hpe
  subst hpe1
  refine ⟨fun _=>?_,fun h=>absurd h (by decide)⟩
  by_cases k1:c.kind=1
  ·rcases h1 k1 with ⟨_,rfl⟩ | ⟨hb,_⟩
   ·rfl
   ·exact absurd (.inl ⟨k1,⟨hb.1,hb.2.1⟩,hb.2.2⟩) nw
  ·rcases h2 (by omega) hk6 with ⟨_,rfl⟩ | ⟨hb,_⟩
   ·rfl
   ·refine absurd ?_ nw
    obtain ⟨b1,b2,b3,b4⟩:=hb
    by_cases k2:c.kind=2
    ·exact .inr (.inl ⟨k2,b1,⟨(b2 k2).1,(b2 k2).2.1⟩,(b2 k2).2.2⟩)
    by_cases k3:c.kind=3
    ·exact .inr (.inr (.inl ⟨k3,b1,(b3 k3).1,(b3 k3).2⟩))
    by_cases k4:c.kind=4
    ·exact .inr (.inr (.inr (.inl ⟨k4,b1,(b4 k4).1,(b4 k4).2.1,(b4 k4).2.2.1,(b4 k4).2.2.2⟩)))
    ·exact .inr (.inr (.inr (.inr ⟨by omega,b1⟩)))
 | true =>
  rw [hw,if_neg (by decide),if_neg (by decide)] at hpe
  have w:=of_decide_eq_true hw
  unfold Zeq at hpe
  by_cases k1:c.kind=1
  ·have hb:0≤c.dest∧c.dest < m.p∧6≤c.bits∧c.bits≤40:=by clear hpe h1 h2;omega
   rw [if_pos k1] at hpe
   have hce:pe=Vb (V2 m.l k m.p.toNat) m.rs c:=by
    rw [hpe]
    split
    ·rfl
    ·rename_i hn;exact (Decidable.not_not.1 hn).symm
   unfold Vb at hce
   rw [Zet hE k hb.1 (by decide) (by omega)] at hce
   rcases h1 k1 with ⟨nb,_⟩ | ⟨_,⟨hr,rfl⟩ | ⟨hr,⟨hg,rfl⟩ | ⟨hg,⟨ht,rfl⟩ | ⟨ht,he⟩⟩⟩⟩
   ·exact absurd hb nb
   ·rw [if_pos hr] at hce;subst hce;exact ⟨fun _=>rfl,fun h=>absurd h (by decide)⟩
   ·rw [hr,if_neg (by decide),if_pos hg] at hce;subst hce;exact ⟨fun _=>rfl,fun h=>absurd h (by decide)⟩
   ·rw [hr,if_neg (by decide),if_neg (Int.not_lt.2 hg),if_pos ht] at hce;subst hce;exact ⟨fun _=>rfl,fun h=>absurd h (by decide)⟩
   ·rw [hr,if_neg (by decide),if_neg (Int.not_lt.2 hg),ht,if_neg (by decide)] at hce;subst hce;exact ⟨fun h=>absurd rfl h,fun _=>he.elim (fun h=>.inr (.inl h)) .inl⟩
  ·rw [if_neg k1] at hpe
   have hwf:wfD m k c:=by
    refine ⟨?_,fun hh=>?_,fun hh=>?_,fun hh=>?_⟩ <;> (clear hpe h1 h2;omega)
   have hs0:=hwf.1
   have hget:=ZlC (l:=m.l) (k:=k) (q:=m.p.toNat) hs0.1 (by rw [hq];exact hs0.2)
   rw [hget] at hpe
   rcases h2 (by omega) hk6 with ⟨nw,_⟩ | ⟨_,⟨hat,rfl⟩ | ⟨s,hat,d2,d3,d4,d56⟩⟩
   ·exact absurd hwf nw
   ·rw [hat] at hpe
    have e2:ZkF (wOf m k) (V2 m.l k m.p.toNat) ((List.range m.ws.length).map fun (i:Nat)=>(i:Int)) ⟨atN none,0,zid⟩ c=2:=by
     unfold ZkF
     rw [if_pos (show YP ⟨atN none,0,zid⟩=true from decide_eq_true (show YG.id=zid from rfl))]
    rw [e2,if_pos (by decide)] at hpe
    have hpe':pe=2:=hpe
    subst hpe'
    exact ⟨fun _=>rfl,fun h=>absurd h (by decide)⟩
   ·rw [hat] at hpe
    have he:=h.lok.ent s (List.mem_of_find?_eq_some hat)
    have hem:YP ⟨atN (some s),0,zid⟩=false:=by
     have:=Ze8 hE k c.slot.toNat
     unfold Ys at this
     rw [Int.toNat_of_nonneg hs0.1,hat] at this
     exact this
    have e2:ZkF (wOf m k) (V2 m.l k m.p.toNat) ((List.range m.ws.length).map fun (i:Nat)=>(i:Int)) ⟨atN (some s),0,zid⟩ c=ZnZ (wOf m k) (V2 m.l k m.p.toNat) ((List.range m.ws.length).map fun (i:Nat)=>(i:Int)) s.node c:=by
     unfold ZkF
     rw [hem,if_neg (by decide)]
     rfl
    rw [e2,if_neg (c:=JS m.rs (atN (some s)).cap.base (atN (some s)).cap.bits < 0) (Int.not_lt.2 he.rg)] at hpe
    have hde:pe=ZnZ (wOf m k) (V2 m.l k m.p.toNat) ((List.range m.ws.length).map fun (i:Nat)=>(i:Int)) s.node c:=by
     rw [hpe]
     split
     ·rfl
     ·rename_i hn;exact (Decidable.not_not.1 hn).symm
    have h8:=(Jr he.ok).2.2.1
    have l8:(8≤s.node.path.length)↔s.node.path.length=8:=by omega
    clear hpe e2
    unfold ZnZ at hde
    simp only [l8,ZlO] at hde
    by_cases k2:c.kind=2
    ·rw [if_pos k2,Zet hE k (hwf.2.1 k2).2.2.1 (by have:=(hwf.2.1 k2).1;omega) (by have:=(hwf.2.1 k2).2.2.2;omega)] at hde
     rcases d2 k2 with ⟨hr,rfl⟩ | ⟨hr,⟨ht,rfl⟩ | ⟨ht,⟨hl,rfl⟩ | ⟨hl,he7⟩⟩⟩
     ·rw [if_pos hr] at hde;exact ⟨fun _=>hde.symm,fun h0=>absurd (hde.symm.trans h0) hr⟩
     ·rw [if_neg (fun hh=>hh hr),if_pos ht] at hde;subst hde;exact ⟨fun _=>rfl,fun h=>absurd h (by decide)⟩
     ·rw [if_neg (fun hh=>hh hr),ht,if_neg (by decide),if_pos hl] at hde;subst hde;exact ⟨fun _=>rfl,fun h=>absurd h (by decide)⟩
     ·rw [if_neg (fun hh=>hh hr),ht,if_neg (by decide),if_neg hl] at hde;subst hde;exact ⟨fun h=>absurd rfl h,fun _=>he7.elim (fun h=>.inr (.inl h)) .inl⟩
    rw [if_neg k2] at hde
    by_cases k3:c.kind=3
    ·rw [if_pos k3,Zet hE k (hwf.2.2.1 k3).1.1 (by decide) (by have:=(hwf.2.2.1 k3).1.2;omega)] at hde
     rcases d3 k3 with ⟨ht,rfl⟩ | ⟨ht,⟨hl,rfl⟩ | ⟨hl,rfl⟩⟩
     ·rw [if_pos ht] at hde;subst hde;exact ⟨fun _=>rfl,fun h=>absurd h (by decide)⟩
     ·rw [ht,if_neg (by decide),if_pos hl] at hde;subst hde;exact ⟨fun _=>rfl,fun h=>absurd h (by decide)⟩
     ·rw [ht,if_neg (by decide),if_neg hl] at hde;subst hde;exact ⟨fun h=>absurd rfl h,fun _=>.inl rfl⟩
    rw [if_neg k3] at hde
    by_cases k4:c.kind=4
    ·rw [if_pos k4] at hde
     rcases d4 k4 with ⟨hd,rfl⟩ | ⟨hd,⟨hr,rfl⟩ | ⟨hr,⟨hl,rfl⟩ | ⟨hl,⟨hm,rfl⟩ | ⟨hm,he3⟩⟩⟩⟩
     ·rw [if_pos hd] at hde;subst hde;exact ⟨fun _=>rfl,fun h=>absurd h (by decide)⟩
     ·rw [if_neg hd,if_pos hr] at hde;subst hde;exact ⟨fun _=>rfl,fun h=>absurd h (by decide)⟩
     ·rw [if_neg hd,if_neg hr,if_pos hl] at hde;subst hde;exact ⟨fun _=>rfl,fun h=>absurd h (by decide)⟩
     ·rw [if_neg hd,if_neg hr,if_neg hl,if_pos (decide_eq_false hm)] at hde;subst hde;exact ⟨fun _=>rfl,fun h=>absurd h (by decide)⟩
     ·rw [if_neg hd,if_neg hr,if_neg hl,if_neg (by rw [decide_eq_true hm];decide)] at hde;subst hde;exact ⟨fun h=>absurd rfl h,fun _=>he3.elim (fun h=>.inr (.inr ⟨k4,h⟩)) .inl⟩
    ·rw [if_neg k4] at hde
     subst hde
     exact ⟨fun h=>absurd rfl h,fun _=>.inl (d56 (by omega))⟩
end Go.Proofs.YtapbmpfhogkkaaaGreat
end

section
namespace Go.Proofs.YtapbmpfhogkkaaaGreat
open Go Go.AM
set_option linter.unusedSimpArgs false
set_option linter.unusedVariables false
set_option maxRecDepth 100000
theorem ZkB {a b:Int} (h:cop .neq a b=true):a≠b:=by simpa only [CQ] using h
theorem Zkx {a b:Int} (h:a≠b):cop .neq a b=true:=by simpa only [CQ] using h
theorem ZgC (k:Int) (q:Nat):List.replicate q [AV.val (.int .i64 0),AV.val (.int .i64 0),AV.val (.int .i64 0),AV.slice false 3 E0,AV.val (.int .i64 0),AV.val (.int .i64 0),AV.val (.int .i64 0),AV.val (.int .i64 0),AV.val (.int .i64 0),AV.val (.int .i64 0),AV.val (.bool false),AV.val (.int .i64 0),AV.val (.int .i64 0),AV.val (.int .i64 0),AV.val (.int .i64 0)]=(V2 (([] : List ZT).take 0) k q).map YY:=by
 apply List.ext_getElem?
 intro i
 rw [List.getElem?_map,ZaE,List.getElem?_replicate]
 split<;>rfl
set_option maxHeartbeats 8000000 in
theorem Zqb (m:Mc) {j:Nat} (h:WfM m j) (hj:j < 100) (k:Int) (hk:0≤k∧k < (m.ws.length:Int)) (ws:List Int) (p:Int) (rs:List Reg) (os:LL) (e1:m.ws=ws) (e2:m.p=p) (e3:m.rs=rs) (w0 w1 w2 w3 w4 w5 w6 w7 w8:Int) :
  Ret (fun r=>r=true) (ZkR ZZ w0 w1 w2 w3 w4 w5 w6 w7 w8 (Zd ws) (ws.length:Int) p (rs.map JO) os k (List.replicate p.toNat [AV.val (.int .i64 0),AV.val (.int .i64 0),AV.val (.int .i64 0),AV.slice false 3 E0,AV.val (.int .i64 0),AV.val (.int .i64 0),AV.val (.int .i64 0),AV.val (.int .i64 0),AV.val (.int .i64 0),AV.val (.int .i64 0),AV.val (.bool false),AV.val (.int .i64 0),AV.val (.int .i64 0),AV.val (.int .i64 0),AV.val (.int .i64 0)]) (m.l.map Zm) 0 (Zd m.ws) m.st m.p (m.rs.map JO) m.os (m.l.map Zm) m.tabs m.mem m.been (m.cr.map crc)):=by
 subst e1 e2 e3
 have hl8:m.l.length < 1000:=by have:=h.len;omega
 have hw4:=h.w4
 have hw1:=h.w1
 have hp0:=h.p0
 have hp1:=h.p1
 have hr1:=h.r1
 have hr3:=h.r3
 have kt:k.toNat < m.ws.length:=by omega
 have hwe:wOf m k=m.ws[k.toNat]:=by simp [wOf,kt]
 have hfew:ZkY (V2 m.l k m.p.toNat):=by
  refine ⟨by rw [ZhZ];omega,fun s hs=>?_⟩
  obtain ⟨i,_,rfl⟩:=List.mem_map.1 hs
  unfold Ys
  cases ha:atE m.l k (i:Int) with
  | none => exact Nat.zero_le _
  | some e => have := (Jr (h.lok.ent e (List.mem_of_find?_eq_some ha)).ok).2.2.1; show e.node.path.length ≤ 20; omega
 refine Zw (F:=fun q (s:LL) z=>ZkR q w0 w1 w2 w3 w4 w5 w6 w7 w8 (Zd m.ws) (m.ws.length:Int) m.p (m.rs.map JO) os k s (m.l.map Zm) z (Zd m.ws) m.st m.p (m.rs.map JO) m.os (m.l.map Zm) m.tabs m.mem m.been (m.cr.map crc)) m.l.length (fun i s=>s=(V2 (m.l.take i) k m.p.toNat).map YY) hl8 ?_ (List.replicate m.p.toNat [AV.val (.int .i64 0),AV.val (.int .i64 0),AV.val (.int .i64 0),AV.slice false 3 E0,AV.val (.int .i64 0),AV.val (.int .i64 0),AV.val (.int .i64 0),AV.val (.int .i64 0),AV.val (.int .i64 0),AV.val (.int .i64 0),AV.val (.bool false),AV.val (.int .i64 0),AV.val (.int .i64 0),AV.val (.int .i64 0),AV.val (.int .i64 0)]) (by rw [ZgC k];simp)
 rintro q i s hi rfl next
 refine Zk (Zlr ..) (Zb (fun hlt=>?_) fun hge=>?_)
 ·simp only [CQ,List.length_map] at hlt
  have ni:i < m.l.length:=Int.ofNat_lt.1 hlt
  have hE:=h.lok.ent _ (List.getElem_mem ni)
  have hss:=ZlT h.lok ni k m.p.toNat
  have len2:(List.length ((V2 (m.l.take i) k m.p.toNat).map YY):Int)=m.p:=by rw [List.length_map,ZhZ];omega
  rw [JU hi hl8]
  refine Zk (Zq ni _) (Zb (fun hc=>?_) fun hc=>?_)
  ·have hck:m.l[i].core=k:=Jz hc
   rw [if_pos hck] at hss
   have hs1:m.l[i].slot < (List.length ((V2 (m.l.take i) k m.p.toNat).map YY):Int):=by rw [len2];exact hE.s1
   refine Zk (Zq ni _) (Zk (Zq ni _) (Zc hE.s0 (Zc hs1 (Zc hE.s0 (Zc hs1 ?_)))))
   refine next ni _ ?_
   rw [← hss]
   exact Zh9 YY (fun s=>{ s with node:=m.l[i].node }) (V2 (m.l.take i) k m.p.toNat) m.l[i].slot.toNat 0 (Zer m.l[i].node) fun x _=>rfl
  ·have hck:¬ m.l[i].core=k:=Z4 hc
   rw [if_neg hck] at hss
   exact next ni _ (by rw [hss])
 ·simp only [CQ,List.length_map] at hge
  have hie:i=m.l.length:=by omega
  subst hie
  rw [List.take_length]
  refine Ze (s8w m.ws _ m.p m.rs os k w0 w1 w2 w3 w4 w5 w6 w7 w8 hw1 hw4 hr1 hr3 ⟨hp0,by omega⟩) fun r28 hr28=>?_
  obtain ⟨c,rfl,hcn,hc1⟩:=hr28
  refine Zb (fun hk6=>?_) fun hk6=>?_
  ·have hkk1:1≤({ c with kind:=6 }).kind:=(show (1:Int)≤6 by decide)
   have hkk6:({ c with kind:=6 }).kind≤6:=(show (6:Int)≤6 by decide)
   refine JP hk.1 kt ?_
   rw [← hwe]
   refine Zf (s11 m h.mem (by omega)) ?_
   have hP:=s10 k 100 (wOf m k) (V2 m.l k m.p.toNat) m.rs ((List.range m.ws.length).map fun (i:Nat)=>(i:Int)) ({ c with kind:=6 }) hfew (by omega) (by simp;omega) hcn
   refine Zf hP (Ze (s7 m h hj (Nat.le_refl 100) k hk ({ c with kind:=6 })) fun r hr=>?_)
   obtain ⟨e,a1,a2,a3,a4,a5,a6,a7,a8,m',rfl,_,q1,q2⟩:=hr
   obtain ⟨ag1,ag2⟩:=agree h hk hkk1 hkk6 q1 q2 rfl
   refine Zb (fun hne=>Zb (fun _=>Zf s12 (Za rfl)) fun hno=>absurd (ag1 (ZkB hne)) (Z4 hno)) fun heq=>Zb (fun _=>Zf s12 (Za rfl)) fun h0=>Zb (fun _=>Zf s12 (Za rfl)) fun h7=>?_
   have hz:(ZcZ k 100 (wOf m k) (V2 m.l k m.p.toNat) m.rs ((List.range m.ws.length).map fun (i:Nat)=>(i:Int)) ({ c with kind:=6 })).2.2=0:=Decidable.not_not.1 fun hh=>heq (Zkx hh)
   have a0:=Z4 h0
   have a7':=Z4 h7
   rcases ag2 hz with hh | hh | ⟨hk4,hh⟩
   ·exact absurd hh a0
   ·exact absurd hh a7'
   ·exact absurd hk4 (show ¬ (6:Int)=4 by decide)
  ·have hkk1:1≤(c).kind:=hc1
   have hkk6:(c).kind≤6:=(by have hq:¬ cop .gtr c.kind 6=true:=hk6;simp only [CQ] at hq;omega)
   refine JP hk.1 kt ?_
   rw [← hwe]
   refine Zf (s11 m h.mem (by omega)) ?_
   have hP:=s10 k 100 (wOf m k) (V2 m.l k m.p.toNat) m.rs ((List.range m.ws.length).map fun (i:Nat)=>(i:Int)) (c) hfew (by omega) (by simp;omega) hcn
   refine Zf hP (Ze (s7 m h hj (Nat.le_refl 100) k hk (c)) fun r hr=>?_)
   obtain ⟨e,a1,a2,a3,a4,a5,a6,a7,a8,m',rfl,_,q1,q2⟩:=hr
   obtain ⟨ag1,ag2⟩:=agree h hk hkk1 hkk6 q1 q2 rfl
   refine Zb (fun hne=>Zb (fun _=>Zf s12 (Za rfl)) fun hno=>absurd (ag1 (ZkB hne)) (Z4 hno)) fun heq=>Zb (fun _=>Zf s12 (Za rfl)) fun h0=>Zb (fun _=>Zf s12 (Za rfl)) fun h7=>?_
   have hz:(ZcZ k 100 (wOf m k) (V2 m.l k m.p.toNat) m.rs ((List.range m.ws.length).map fun (i:Nat)=>(i:Int)) (c)).2.2=0:=Decidable.not_not.1 fun hh=>heq (Zkx hh)
   have a0:=Z4 h0
   have a7':=Z4 h7
   rcases ag2 hz with hh | hh | ⟨hk4,hh⟩
   ·exact absurd hh a0
   ·exact absurd hh a7'
   ·refine Zb (fun _=>Zb (fun _=>Zf s12 (Za rfl)) fun h3=>absurd hh (Z4 h3)) fun h4=>absurd hk4 (Z4 h4)
structure Sp where
 k:Int
 w0:Int
 w1:Int
 w2:Int
 w3:Int
 w4:Int
 w5:Int
 w6:Int
 w7:Int
 w8:Int
def spc (s:Sp):List AV:=[I s.k,I s.w0,I s.w1,I s.w2,I s.w3,I s.w4,I s.w5,I s.w6,I s.w7,I s.w8]
theorem Zfv {γ:Type} {l:List Sp} {i:Nat} (h:i < l.length) (f:(Int×Int×Int×Int×Int×Int×Int×Int×Int×Int)→Option γ):Zj (l.map spc) (i:Int) [.int .i64,.int .i64,.int .i64,.int .i64,.int .i64,.int .i64,.int .i64,.int .i64,.int .i64,.int .i64] f=f (l[i].k,l[i].w0,l[i].w1,l[i].w2,l[i].w3,l[i].w4,l[i].w5,l[i].w6,l[i].w7,l[i].w8):=
 YQ (f:=spc) (sh:=[.int .i64,.int .i64,.int .i64,.int .i64,.int .i64,.int .i64,.int .i64,.int .i64,.int .i64,.int .i64]) (v:=fun s=>(s.k,s.w0,s.w1,s.w2,s.w3,s.w4,s.w5,s.w6,s.w7,s.w8)) (fun _=>rfl) h f
set_option maxHeartbeats 8000000 in
theorem s3 (a:List Int) (st:List Sp) (core w0 w1 w2 w3 w4 w5 w6 w7 w8:Int):g3 (Zd a) (st.map spc) core w0 w1 w2 w3 w4 w5 w6 w7 w8=some true:=by
 have key:Ret (fun r=>r=true) (g3 (Zd a) (st.map spc) core w0 w1 w2 w3 w4 w5 w6 w7 w8):=by
  rw [Zo8]
  refine Ze (s4w a) fun r hr=>?_
  obtain ⟨⟨n,p,ws,rs,os,rfl,b1,b2,b3,b4,b5,b6,b7,b8⟩,hn⟩:=hr
  have hn':n=(List.length (Zd ws):Int):=hn
  rw [Z2] at hn'
  subst hn'
  refine Ze (s5w ws p rs os b1 b2 b3 b4 b5 b7 b8) fun r17 hr17=>?_
  obtain ⟨m,rfl,d1,d2,d3,hwf⟩:=hr17
  subst d1 d2 d3
  have lw:(List.length (Zd m.ws):Int)=m.ws.length:=by rw [Z2]
  have mk:ZaB m.p 136:=by
   unfold ZaB Jp
   have:m.p.toNat*(136+1)≤12*137:=Nat.mul_le_mul (by omega) (Nat.le_refl _)
   omega
  refine Zw (F:=fun q (s:LL×Int×Int×LL×LL×LL×LL×LL×LL×LL) z=>ZoN q (st.map spc) core w0 w1 w2 w3 w4 w5 w6 w7 w8 (Zd m.ws) (m.ws.length:Int) m.p (m.rs.map JO) (Zd os) z s.1 s.2.1 s.2.2.1 s.2.2.2.1 s.2.2.2.2.1 s.2.2.2.2.2.1 s.2.2.2.2.2.2.1 s.2.2.2.2.2.2.2.1 s.2.2.2.2.2.2.2.2.1 s.2.2.2.2.2.2.2.2.2) (min 40 st.length) (fun i s=>∃ m',s=mT m'∧m'.ws=m.ws∧m'.p=m.p∧m'.rs=m.rs∧WfM m' i) (by omega) ?_ (mT m) ⟨m,rfl,rfl,rfl,rfl,hwf⟩
  rintro q i s hi ⟨m',rfl,e1,e2,e3,hw'⟩ next
  have hi40:i≤40:=by omega
  have fin:∀ k,(0≤k∧k < (List.length (Zd m.ws):Int))→Ret (fun r=>r=true) (ZkR ZZ w0 w1 w2 w3 w4 w5 w6 w7 w8 (Zd m.ws) (m.ws.length:Int) m.p (m.rs.map JO) (Zd os) k (List.replicate m.p.toNat [AV.val (.int .i64 0),AV.val (.int .i64 0),AV.val (.int .i64 0),AV.slice false 3 E0,AV.val (.int .i64 0),AV.val (.int .i64 0),AV.val (.int .i64 0),AV.val (.int .i64 0),AV.val (.int .i64 0),AV.val (.int .i64 0),AV.val (.bool false),AV.val (.int .i64 0),AV.val (.int .i64 0),AV.val (.int .i64 0),AV.val (.int .i64 0)]) (m'.l.map Zm) 0 (Zd m'.ws) m'.st m'.p (m'.rs.map JO) m'.os (m'.l.map Zm) m'.tabs m'.mem m'.been (m'.cr.map crc)):=fun k hk=>
   Zqb m' hw' (by omega) k ⟨hk.1,by rw [e1,← lw];exact hk.2⟩ m.ws m.p m.rs (Zd os) e1 e2 e3 w0 w1 w2 w3 w4 w5 w6 w7 w8
  have h9:=s9 m' (hw'.lok.few (by have:=hw'.len;omega))
  have pl:∀ x,Ret (fun r=>0≤r∧r < (List.length (Zd m.ws):Int)) (g6 x (List.length (Zd m.ws):Int)):=fun x=>place x _ (by rw [lw];omega) (by rw [lw];omega)
  refine Zk (ZlV ..) (Zb (fun q1=>Zb (fun q2=>?_) fun q2=>?_) fun q1=>?_)
  ·simp only [CQ,List.length_map] at q1 q2
   have ni:i < st.length:=Int.ofNat_lt.1 q1
   have nm:i < min 40 st.length:=by omega
   rw [JU hi (by omega)]
   refine Zk (Zfv ni _) (Ze (pl _) fun k hk=>Zk (Zfv ni _) ?_)
   refine Ze (s8w m.ws _ m.p m.rs (Zd os) k _ _ _ _ _ _ _ _ _ b1.1 b1.2 b2.1 b2.2 ⟨by omega,by omega⟩) fun r48 hr48=>?_
   obtain ⟨c,rfl,hc,hc1⟩:=hr48
   refine Ze (s7 m' hw' (Nat.lt_succ_self i) (by omega) k ⟨hk.1,by rw [e1,← lw];exact hk.2⟩ c) fun r60 hr60=>?_
   obtain ⟨e,a1,a2,a3,a4,a5,a6,a7,a8,m2,rfl,⟨c1,c2,c3,c4⟩,_,_⟩:=hr60
   exact next nm (mT m2) ⟨m2,rfl,c1.trans e1,c2.trans e2,c3.trans e3,c4⟩
  ·exact Ze (pl core) fun k hk=>Zc mk (Zc (Int.le_refl _) (Zc (Int.le_refl _) (Zf h9 (fin k hk))))
  ·exact Ze (pl core) fun k hk=>Zc mk (Zc (Int.le_refl _) (Zc (Int.le_refl _) (Zf h9 (fin k hk))))
 obtain ⟨r,e,rfl⟩:=key
 exact e
theorem ZnV:Tryz.prog.cellsOf 34=10:=by kernel_rfl
theorem ZoS {d:Nat} {cs:List AV} (h:TyR Tryz.prog (d+3) 34 cs):∃ s:Sp,cs=spc s:=by
 rw [TyR] at h
 simp only [Tryz.underlying34] at h
 obtain ⟨ps,rfl,hl,hp⟩:=h
 obtain ⟨p0,p1,rfl⟩:∃ p0 p1,ps = [p0,p1]:=by
  match ps,hl with
  | [p0, p1], _ => exact ⟨p0, p1, rfl⟩
 obtain ⟨a,rfl⟩:=Kv (hp 0 _ _ rfl rfl)
 obtain ⟨v0,v1,v2,v3,v4,v5,v6,v7,v8,rfl⟩:=Zif (hp 1 _ _ rfl rfl)
 exact ⟨⟨a,v0,v1,v2,v3,v4,v5,v6,v7,v8⟩,rfl⟩
theorem Zit {x:AV} (h:VW Tryz.prog 12 23 x):∃ l:List Sp,x = .slice false 10 (l.map spc)∧l.length < 2^63:=by
 simp only [VW,Tryz.underlying23] at h
 have hh:=h.2
 rw [TyR] at hh
 simp only [Tryz.underlying23,ZnV] at hh
 obtain ⟨xs,h1,h2,h3⟩:=hh
 obtain ⟨l,rfl,h5⟩:=Za2 (f:=spc) (p:=fun _=>True) xs fun y hy=>(ZoS (h3 y hy)).elim fun a h=>⟨a,h,trivial⟩
 exact ⟨l,by simpa using h1,ZqN (by simpa using h2)⟩
theorem s3x (a:List Int) (st:List Sp) (hst:st.length < 2^63) (core w0 w1 w2 w3 w4 w5 w6 w7 w8:Int):g3 (Zd a) (st.map spc) core w0 w1 w2 w3 w4 w5 w6 w7 w8=some true:=s3 a st core w0 w1 w2 w3 w4 w5 w6 w7 w8
end Go.Proofs.YtapbmpfhogkkaaaGreat
end
