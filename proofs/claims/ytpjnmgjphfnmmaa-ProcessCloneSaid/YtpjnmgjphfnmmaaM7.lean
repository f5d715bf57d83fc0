import Derived.Test.YtpjnmgjphfnmmaaM6
import Derived.Test.YtpjnmgjphfnmmaaM5
import Derived.Test.YtpjnmgjphfnmmaaFWl
import Derived.Test.YtpjnmgjphfnmmaaM4
import Derived.ChangeArms
import Derived.ChangeStays
import Derived.ChangeBook
import Derived.ChangeSame
import Derived.RowKit
import Derived.ChangeOld
import GoSem.ClaimJoined
import GoSem.ClaimOpenFrom
import Derived.KernelRfl
import Derived.Test.YtpjnmgjphfnmmaaRows
import Derived.Test.YtpjnmgjphfnmmaaChecked
import Derived.JoinedOf
import Derived.JoinedAt
import Derived.RowKit3
open Option renaming some→Xa,none→Xc,bind_some→Xi,map_some→Xw
open Bool renaming true→Xb,false→Xe,and_eq_true→Xs
open Option.some renaming injEq→Xf
open List renaming replicate→Xg,mem_map→Xj,getElem?_eq_some_iff→Xk,getElem?_map→Xl,getElem?_eq_getElem→Xp,length_append→Xu,getElem?_append_left→Xx,getElem?_append_right→Xz,getElem?_cons_zero→XB,all_eq_true→XD,mem_singleton→XE,append_nil→XN,mem_iff_getElem?→XO,perm_append_comm_assoc→X4,flatten_cons→X9,sum_cons→Ug,countP_append→U9
open Nat renaming lt_or_ge→XG,le_trans→XI
set_option linter.unusedVariables false
set_option linter.unusedSimpArgs false
set_option linter.defProp false
namespace Go.W
section
open Go Go.AM Go.Proofs.Ytpjnmgjphfnmmaa
set_option maxRecDepth 100000
variable {rows:LL} {F:JZ}
theorem Zko (l:List Int) (hl:l.length≤1000000):∀ (d i k:Nat),i+d=l.length→d < k→Zrm k (ints l) (ints l) (i:Int)=Xa Xb
 | 0, i, k, hd, hk => by
  obtain ⟨k',rfl⟩:∃ k',k=k'+1:=⟨k-1,by omega⟩;have hlen:((ints l).length:Int)=(l.length:Int):=by simp [ints]
  rw [Zkh,hlen,if_neg (by simp [cop];omega)]
 | d + 1, i, k, hd, hk => by
  obtain ⟨k',rfl⟩:∃ k',k=k'+1:=⟨k-1,by omega⟩;have hlen:((ints l).length:Int)=(l.length:Int):=by simp [ints]
  have hz:l[i]? = Xa (l[i]'(by omega)):=Xp _;rw [Zkh,hlen,if_pos (by simp [cop];omega),Z1 hz,Z1 hz,if_neg (by simp [cop]),ZaQ (by omega)];exact Zko l hl d (i+1) k' (by omega) (by omega)
theorem s48 (l:List Int) (hl:l.length≤1000000):g48 (ints l) (ints l)=Xa Xb:=by
 rw [Zut,if_neg (by simp [cop])];exact Zko l hl l.length 0 Jl (by omega) (by unfold Jl;omega)
theorem ZkN (l:List Pr) (hl:l.length≤1000) (hc:∀ p∈l,p.cores.length≤1000000):∀ (d i k:Nat),i+d=l.length→d < k→ZrD k (l.map Zbb) (l.map Zbb) (i:Int)=Xa Xb
 | 0, i, k, hd, hk => by
  obtain ⟨k',rfl⟩:∃ k',k=k'+1:=⟨k-1,by omega⟩;have hlen:((l.map Zbb).length:Int)=(l.length:Int):=by simp
  rw [Zkd,hlen,if_neg (by simp [cop];omega)]
 | d + 1, i, k, hd, hk => by
  obtain ⟨k',rfl⟩:∃ k',k=k'+1:=⟨k-1,by omega⟩;have hlen:((l.map Zbb).length:Int)=(l.length:Int):=by simp
  have hz:l[i]? = Xa (l[i]'(by omega)):=Xp _;have h1:=s48 (l[i]'(by omega)).cores (hc _ (List.getElem_mem _));have h2:g48 (v7 (l[i]'(by omega))).2.2.2.1 (v7 (l[i]'(by omega))).2.2.2.1=Xa Xb:=h1;rw [Zkd,hlen,if_pos (by simp [cop];omega),ZhT hz,ZhT hz,if_neg (by simp [cop]),if_neg (by simp [cop]),if_neg (by simp),if_neg (by simp),if_neg (by simp [cop]),if_neg (by simp),h2,Xi,if_neg (by decide),ZaQ (by omega)];exact ZkN l hl hc d (i+1) k' (by omega) (by omega)
theorem s25 (l:List Pr) (hl:l.length≤1000) (hc:∀ p∈l,p.cores.length≤1000000):g25 (l.map Zbb) (l.map Zbb)=Xa Xb:=by
 rw [Zu4,if_neg (by simp [cop])];exact ZkN l hl hc l.length 0 Jl (by omega) (by unfold Jl;omega)
theorem Zht {A R C F F0:JZ} (h:F.Perm (C++F0)):(A++(R++F)).Perm (C++(A++(R++F0))):=by
 refine ((h.append_left R).append_left A).trans ?_;refine ((X4 R C F0).append_left A).trans ?_;exact X4 A C _
theorem ZjK {A R C G F:JZ} : (C++(G++(A++(R++F)))).Perm (A++(R++(C++(G++F)))):=by
 refine ((X4 G A _).append_left C).trans ?_;refine (X4 C A _).trans (List.Perm.append_left A ?_);refine ((X4 G R _).append_left C).trans ?_;exact X4 C R _
theorem ZrS {mc:MS} {F0:JZ} (h:ZC rows (mc.frag++F0)) (hm:mc.Ok) (hcl:∀ e∈mc.es,e.p.cores.length≤100) {x4:LL} (hx:Zd x4 = .oref (mc.jm+1) 0) :
  ∃ rows',(if Xb=Xb then
   (g14 x4 rows).bind fun (r8:LL×LL)=>
   (g25 r8.1 ((mc.es.map PE.p).map Zbb)).bind fun (r10:Bool)=>
   if r10=Xb then
   (g15 r8.2).bind fun (r11:Bool×LL)=>
   Xa (r11.1,r11.2)
   else
   Xa (Xe,r8.2)
   else
   Xa (Xe,rows))=Xa (Xb,rows'):=by
 have hml:=hm.len;obtain ⟨rows1,F1,q1,q2⟩:=s14 h hm hx (fun e he=>XI (hcl e he) (by decide));obtain ⟨rows2,q3⟩:=s15 q2;refine ⟨rows2,?_⟩;rw [if_pos rfl,q1,Xi];dsimp only;rw [s25 _ (by simp;omega) (fun p hp=>by obtain ⟨e,he,rfl⟩:=Xj.1 hp;exact XI (hcl e he) (by decide)),Xi,if_pos rfl,q3,Xi]
theorem ZrY (ss:List ZqF) (mc:MS) (hm:mc.Ok) (hcl:∀ e∈mc.es,e.p.cores.length≤100) {x y x4:LL} (hx4:Zd x4 = .oref (mc.jm+1) 0):∀ (d i:Nat) (m:MS) (r:RS) (rows:LL) (F F0:JZ) (q:Nat),i+d=60→Bo rows m r F→F.Perm (mc.frag++F0)→Zd x = .oref (m.jm+1) 0→Zd y = .oref (r.jr+1) 0→m.last≤61+i→d < q→
  ∃ rows',Ztl q (ss.map stepc) x y Xb x4 ((mc.es.map PE.p).map Zbb) (i:Int) rows=Xa (Xb,rows')
 | 0, i, m, r, rows, F, F0, q, hd, b, hF, hx, hy, hl, hq => by
  obtain ⟨q',rfl⟩:∃ q',q=q'+1:=⟨q-1,by omega⟩;obtain ⟨rows',hr⟩:=ZrS (rows:=rows) (F0:=m.frag++(r.frag++F0)) (mc:=mc) (x4:=x4) (b.h.perm (Zht hF)) hm hcl hx4;refine ⟨rows',?_⟩;rw [Zjx,if_pos rfl];split
  ·rw [if_neg (by simp [cop];omega)];exact hr
  ·exact hr
 | d + 1, i, m, r, rows, F, F0, q, hd, b, hF, hx, hy, hl, hq => by
  obtain ⟨q',rfl⟩:∃ q',q=q'+1:=⟨q-1,by omega⟩;have hlen:((ss.map stepc).length:Int)=(ss.length:Int):=by simp
  by_cases hi:i < ss.length
  ·have hz:=Xp hi;obtain ⟨rows2,m',r',X,q1,q2,q3,q4,q5,q6⟩:=ZwU b hx hy (by omega) ss[i].k ss[i].a ss[i].b ss[i].c ss[i].raw ss[i].nm;rw [Zjx,if_pos rfl,hlen,if_pos (by simp [cop];omega),if_pos (by simp [cop];omega),Ziw hz,q1,Xi,ZaQ (by omega)];dsimp only;exact ZrY ss mc hm hcl hx4 d (i+1) m' r' rows2 (X++F) (X++F0) q' (by omega) q2 (((List.Perm.append_left X hF)).trans (X4 _ _ _)) (by rw [q3];exact hx) (by rw [q4];exact hy) (by omega) (by omega)
  ·obtain ⟨rows',hr⟩:=ZrS (rows:=rows) (F0:=m.frag++(r.frag++F0)) (mc:=mc) (x4:=x4) (b.h.perm (Zht hF)) hm hcl hx4;refine ⟨rows',?_⟩;rw [Zjx,if_pos rfl,hlen,if_neg (by simp [cop];omega)];exact hr
theorem Zr8 (ss:List ZqF) {m:MS} {r:RS} (b:Bo rows m r F) (hrc:RC m.es) (hec:EC m.es) {x y:LL} (hx:Zd x = .oref (m.jm+1) 0) (hy:Zd y = .oref (r.jr+1) 0) (hl:m.last≤61) :
  ∃ rows',(if (!true)=Xb then
   Xa (Xe,rows)
   else
   (g24 x rows).bind fun (r7:LL×LL)=>
   Zf ((Zc .pisr r7.1 0 E0 [])≠[])<|
   if (cop .eql (List.length (Zc .pnn r7.1 0 E0 []):Int) 0)=Xb then
   Xa (Xe,r7.2)
   else
   (g14 x r7.2).bind fun (r9:LL×LL)=>
   Ztl Jl (ss.map stepc) x y Xb r7.1 r9.1 0 r9.2)=Xa (Xb,rows'):=by
 have hcl:∀ e∈m.es,e.p.cores.length≤100:=fun e he=>XI (ZrX b.co e he) (by decide);obtain ⟨mc,rows1,G,q1,q2,q3,q4⟩:=Zuk b.h b.ok (ZwB hrc hec) hcl hx
 have hclc:∀ e∈mc.es,e.p.cores.length≤100:=fun e he=>by
  have h1:e.p∈mc.es.map PE.p:=Xj.2 ⟨e,he,rfl⟩;rw [q4] at h1;obtain ⟨a,ha,hap⟩:=Xj.1 h1;rw [← hap];exact hcl a ha
 have h24:g24 x rows=Xa ([[.oref (mc.jm+1) 0]],rows1):=q1;have hpm:(mc.frag++(G++(m.frag++(r.frag++F)))).Perm (m.frag++(r.frag++(mc.frag++(G++F)))):=ZjK;have h1:=q2.perm hpm;obtain ⟨rows2,F2,t1,t2⟩:=s14 h1 b.ok hx (fun e he=>XI (hcl e he) (by decide));have b2:Bo rows2 m r (F2++(mc.frag++(G++F))):=⟨(mvR t2).perm (X4 _ _ _),b.ok,b.sm,b.lst,b.lok,b.co⟩;obtain ⟨rows',hr⟩:=ZrY ss mc q3 hclc (x:=x) (y:=y) (x4:=[[.oref (mc.jm+1) 0]]) rfl 60 0 m r rows2 _ (F2++(G++F)) Jl rfl b2 (X4 _ _ _) hx hy (by omega) (by unfold Jl;omega);refine ⟨rows',?_⟩;rw [if_neg (by decide),h24,Xi];dsimp only;rw [Zb (ne1 (Zpt (x:=[[AV.oref (mc.jm+1) 0]]) rfl)),ZE (x:=[[AV.oref (mc.jm+1) 0]]) rfl,if_neg (by decide),t1,Xi];dsimp only;rw [← q4];exact hr
theorem Zsg (ss ss2:List ZqF) {x y:LL} : ∀ (d i:Nat) (m:MS) (r:RS) (rows:LL) (F:JZ) (q:Nat),i+d=60→Bo rows m r F→RC m.es→EC m.es→Zd x = .oref (m.jm+1) 0→Zd y = .oref (r.jr+1) 0→m.last≤1+i→d < q→
  ∃ rows',Zwb q (ss.map stepc) (ss2.map stepc) x y Xb (i:Int) rows=Xa (Xb,rows')
 | 0, i, m, r, rows, F, q, hd, b, hrc, hec, hx, hy, hl, hq => by
  obtain ⟨q',rfl⟩:∃ q',q=q'+1:=⟨q-1,by omega⟩;obtain ⟨rows',hr⟩:=Zr8 ss2 b hrc hec hx hy (by omega);refine ⟨rows',?_⟩;rw [Zj2,if_pos rfl];split
  ·rw [if_neg (by simp [cop];omega)];exact hr
  ·exact hr
 | d + 1, i, m, r, rows, F, q, hd, b, hrc, hec, hx, hy, hl, hq => by
  obtain ⟨q',rfl⟩:∃ q',q=q'+1:=⟨q-1,by omega⟩;have hlen:((ss.map stepc).length:Int)=(ss.length:Int):=by simp
  by_cases hi:i < ss.length
  ·have hz:=Xp hi;obtain ⟨rows2,m',r',X,q1,q2,q3,q4,q5,q6⟩:=ZwU b hx hy (by omega) ss[i].k ss[i].a ss[i].b ss[i].c ss[i].raw ss[i].nm;rw [Zj2,if_pos rfl,hlen,if_pos (by simp [cop];omega),if_pos (by simp [cop];omega),Ziw hz,q1,Xi,ZaQ (by omega)];dsimp only;exact Zsg ss ss2 d (i+1) m' r' rows2 (X++F) q' (by omega) q2 (Zu2 b.lok hrc q6) (Zvz b.lok hec q6) (by rw [q3];exact hx) (by rw [q4];exact hy) (by omega) (by omega)
  ·obtain ⟨rows',hr⟩:=Zr8 ss2 b hrc hec hx hy (by omega);refine ⟨rows',?_⟩;rw [Zj2,if_pos rfl,hlen,if_neg (by simp [cop];omega)];exact hr
theorem s7 (core:Int) (ss ss2:List ZqF):∃ rows',g7 core (ss.map stepc) (ss2.map stepc) E0=Xa (Xb,rows'):=by
 have h:ZC E0 []:=⟨List.nodup_nil,fun p hp=>by cases hp⟩;obtain ⟨r1,m,r,F',j,c,z,q1,q2,q3,q4,q5⟩:=s16 h core;rw [Zwz,q1,Xi];refine Zsg ss ss2 60 0 m r r1 F' Jl rfl q2 (fun e he _=>?_) (fun e he hen=>?_) rfl rfl (by rw [q4];decide) (by unfold Jl;omega)
 ·rw [q3,XE] at he;rw [he];simp [WC]
 ·rw [q3,XE] at he;rw [he] at hen
  cases hen
end
end Go.W
namespace Go.AM
def TyR (P:Program):Nat→TypeId→List AV→Prop
 | 0, _, _ => False
 | d + 1, T, cs =>
  match P.underlying T with
  | some (.int k) => ∃ z, cs = [.val (.int k z)] ∧ (Lit.int k z).wf = Xb
  | some .bool => ∃ b, cs = [.val (.bool b)]
  | some .string => ∃ s, cs = [.val (.string s)]
  | some (.slice e) => ∃ xs : List (List AV), cs = [.slice Xe (P.cellsOf e) xs] ∧ xs.length ≤ maxLen ∧ ∀ x ∈ xs, TyR P d e x
  | some (.struct fs) => ∃ parts : List (List AV), cs = parts.flatten ∧ parts.length = fs.size ∧ ∀ (i : Nat) (f : Field) (p : List AV), fs[i]? = Xa f → parts[i]? = Xa p → TyR P d f.type p
  | _ => False
def ZcL (P:Program):Nat→TypeId→Bool
 | 0, _ => Xe
 | d + 1, T =>
  match P.underlying T with
  | some (.int _) => Xb
  | some .bool => Xb
  | some .string => Xb
  | some (.slice e) => ZcL P d e && decide (0 < P.cellsOf e)
  | some (.struct fs) => (fs.toList.all fun f => ZcL P d f.type) && decide (P.cellsOf T = (fs.toList.map fun f => P.cellsOf f.type).sum) &&
    (fs.toList.zipIdx.all fun p=>decide (p.1.offset=((fs.toList.take p.2).map fun f=>P.cellsOf f.type).sum))
  | _ => Xe
def KR (w:World):Lm:=⟨fun b=>match w.heap[b]? with | some (.cells c _ _)=>c.size | _=>0,fun _=>Xc⟩
theorem ZpF {w:World} {b o:Nat} {u:Value} (h:w.cell? ⟨b,o,Xc⟩=Xa u):o < KR w b:=by
 unfold World.cell? at h;unfold KR;dsimp only;split at h
 ·rename_i c t fr hc;have h':c[o]? = Xa u:=by simpa using h
  have hc':w.heap[b]? = Xa (.cells c t fr):=hc;rw [hc'];exact (Array.getElem?_eq_some_iff.1 h').1
 ·cases h
theorem JI.flat {w:World} {lim:Lm} : ∀ (aZ:List (List AV)) (us:List (List Value)),aZ.length=us.length→(∀ (i:Nat) (a:List AV) (u:List Value),aZ[i]? = Xa a→us[i]? = Xa u→JI w lim a u)→JI w lim aZ.flatten us.flatten
 | [], [], _, _ => JI.nil w lim
 | [], _ :: _, h, _ => by simp at h
 | _ :: _, [], h, _ => by simp at h
 | a :: aZ, u :: us, h, hr => by
  have h1:=hr 0 a u rfl rfl;have h2:=JI.flat aZ us (by simpa using h) fun i a' u' ha hu=>hr (i+1) a' u' (by simpa using ha) (by simpa using hu);refine ⟨by simp [h1.1,h2.1],fun c hc=>?_,fun i c v hc hv=>?_⟩
  ·rw [X9,List.mem_append] at hc;rcases hc with hc | hc
   ·exact h1.2.1 c hc
   ·exact h2.2.1 c hc
  ·rw [X9] at hc hv;by_cases hi:i < a.length
   ·rw [Xx hi] at hc;rw [Xx (by rw [← h1.1];exact hi)] at hv;exact h1.2.2 i c v hc hv
   ·rw [Xz (by omega)] at hc;rw [Xz (by rw [← h1.1];omega),← h1.1] at hv;exact h2.2.2 _ c v hc hv
theorem Zr2 {α:Type} : ∀ (ns:List Nat) (cs:List α),cs.length=ns.sum→∃ ps:List (List α),ps.length=ns.length∧ps.flatten=cs∧∀ (i:Nat) (n:Nat),ns[i]? = Xa n→ps[i]? = Xa ((cs.drop (ns.take i).sum).take n)
 | [], cs, h => ⟨[], rfl, by simp at h; simp [h], by simp⟩
 | n :: ns, cs, h => by
  obtain ⟨ps,h1,h2,h3⟩:=Zr2 ns (cs.drop n) (by simp only [Ug] at h;simp;omega);refine ⟨cs.take n::ps,by simp [h1],by rw [X9,h2,List.take_append_drop],fun i m hi=>?_⟩
  cases i with
  | zero => simp at hi; subst hi; simp
  | succ i =>
   have:=h3 i m (by simpa using hi);simp only [List.getElem?_cons_succ,this,List.take_succ_cons,Ug,List.drop_drop]
theorem ZaP {β:Type} {Q:Nat→β→Prop} : ∀ (n:Nat),(∀ i,i < n→∃ b,Q i b)→∃ l:List β,l.length=n∧∀ (i:Nat) (b:β),l[i]? = Xa b→Q i b
 | 0, _ => ⟨[], rfl, by simp⟩
 | n + 1, h => by
  obtain ⟨l,h1,h2⟩:=ZaP n fun i hi=>h i (by omega);obtain ⟨b,hb⟩:=h n (by omega);refine ⟨l++[b],by simp [h1],fun i c hc=>?_⟩;by_cases hi:i < l.length
  ·rw [Xx hi] at hc;exact h2 i c hc
  ·rw [Xz (by omega)] at hc
   have h0:i-l.length=0:=by
    have:=(Xk.1 hc).1;simp at this;omega
   rw [h0] at hc;simp only [XB,Xf] at hc;subst hc;have:i=n:=by omega
   rw [this];exact hb
theorem Zfo {s:Nat} {cell:Nat→Option Value} : ∀ (l:List (List Value)) (o:Nat),(∀ (i:Nat) (us:List Value),l[i]? = Xa us→us.length=s∧∀ (k:Nat) (u:Value),us[k]? = Xa u→cell (o+i*s+k)=Xa u)→
  ∀ (j:Nat) (u:Value),l.flatten[j]? = Xa u→cell (o+j)=Xa u
 | [], o, _, j, u, h => by simp at h
 | us :: l, o, h, j, u, hj => by
  obtain ⟨h1,h2⟩:=h 0 us rfl;rw [X9] at hj;by_cases hlt:j < us.length
  ·rw [Xx hlt] at hj;have:=h2 j u hj;simpa using this
  ·rw [Xz (by omega)] at hj
   have:=Zfo l (o+s) (fun i us' hi=>by
    obtain ⟨g1,g2⟩:=h (i+1) us' (by simpa using hi);refine ⟨g1,fun k u' hk=>?_⟩;have:=g2 k u' hk;rw [Nat.add_mul,Nat.one_mul] at this;rw [show o+s+i*s+k=o+(i*s+s)+k by omega];exact this) (j-us.length) u hj
   rw [show o+s+(j-us.length)=o+j by omega] at this;exact this
theorem ZlZ {H:Type} {f:Func} {s:ChangeSpec} {apart fresh handsOn again:Bool} {W W':World} {args:Array Value} {v:Value} {ds gs:List (DataW H)} {before pa:List MemPlace} {P:Program} {enc:TypeId×Value→H}
  (hW:DataW.Whole enc P f.params.toList s.vars apart W args.toList ds gs before)
  (hres:∀ (b:Nat) (sp:Nat→Bool) (hd:Bool),DataW.TrodAll enc P W' b sp hd f.resultTypes.toList (v.resultList f.resultTypes.size) (s.fn H (ds++gs)).results [])
  (hargs:∀ sp:Nat→Bool,(∀ p∈before,sp p.block=Xb)→DataW.TrodAll enc P W' 0 sp Xb f.params.toList args.toList (s.fn H (ds++gs)).args pa)
  (hvars:∀ sp:Nat→Bool,(∀ p∈before,sp p.block=Xb)→DataW.TrodVars enc P W' sp s.vars (s.fn H (ds++gs)).vars [])
  (hps:before=pa++[]) (hk:W.keptBut W' (·∈before)) (hfz:∀ a:Addr,a.block < W.heap.size→W'.frozen? a=W.frozen? a)
  (hok:∀ (j:Nat) (t:TypeId) (r:Value),f.resultTypes[j]? = Xa t→(v.resultList f.resultTypes.size)[j]? = Xa r→Value.okWide P W' .any 0 t r) :
  s.post enc P f apart fresh handsOn again W args v W':=by
 have hin:∀ p∈before,p.block < W.heap.size:=fun p hp=>hW.lt p hp;have hdec:∀ p∈before,(fun b=>decide (b < W.heap.size)) p.block=Xb:=fun p hp=>decide_eq_true (hin p hp);refine ⟨ds,gs,before,[],pa,[],hW,hres _ _ _,hargs _ hdec,hvars _ hdec,World.keptBut_mono (fun p hp=>⟨hp,?_⟩) hk,fun _=>?_⟩
 ·refine Or.inr (Or.inl ?_)
  rwa [hps,XN] at hp
 ·have hWp:=hW;obtain ⟨_,_,_,_,_,hz,hn⟩:=hWp;refine ⟨hok,_,_,([]++pa)++[],⟨[]++pa,[],ChangeShapes.trodAll_append (hargs _ fun _ _=>rfl) (hres _ _ _),hvars _ fun _ _=>rfl,rfl,?_,?_⟩,?_⟩
  ·intro b off hp;have hmem:MemPlace.cell b off∈before:=by rw [hps];simpa using hp
   rw [hfz _ (hin _ hmem)];exact hz b off hmem
  ·intro ha;have h1:=hn ha;rw [hps] at h1;simpa using h1
  ·intro p hp _;rw [hps];simpa using hp
section
variable {P:Program} {H:Type} {enc:TypeId×Value→H} {w:World} {sp:Nat→Bool} {held:Bool}
theorem ZjL:∀ (d n:Nat) (T:TypeId) (cs:List Value) (x:DataW H×List MemPlace),ZcL P d T=Xb→DataW.trod enc P w 0 sp held n T cs=Xa x→∃ avs,TyR P d T avs∧JI w (KR w) avs cs
 | 0, n, T, cs, x, hf, _ => by simp [ZcL] at hf
 | d + 1, n, T, cs, x, hf, h => by
  simp only [ZcL] at hf;split at hf
  ·rename_i k hk;obtain ⟨z,rfl,_,hw⟩:=DataW.trod_int hk h;refine ⟨[.val (.int k z)],?_,rfl,by simp [AV.isCell],fun i c u hc hu=>?_⟩
   ·simp only [TyR,hk];exact ⟨z,rfl,hw⟩
   ·cases i with
    | zero => simp at hc hu; subst hc; subst hu; exact .val rfl
    | succ i => simp at hc
  ·rename_i hk;obtain ⟨b,rfl,_⟩:=DataW.trod_bool hk h;refine ⟨[.val (.bool b)],?_,rfl,by simp [AV.isCell],fun i c u hc hu=>?_⟩
   ·simp only [TyR,hk];exact ⟨b,rfl⟩
   ·cases i with
    | zero => simp at hc hu; subst hc; subst hu; exact .val rfl
    | succ i => simp at hc
  ·rename_i hk;obtain ⟨s,rfl,_⟩:=DataW.trod_string hk h;refine ⟨[.val (.string s)],?_,rfl,by simp [AV.isCell],fun i c u hc hu=>?_⟩
   ·simp only [TyR,hk];exact ⟨s,rfl⟩
   ·cases i with
    | zero => simp at hc hu; subst hc; subst hu; exact .val rfl
    | succ i => simp at hc
  ·rename_i e hk;simp only [Xs,decide_eq_true_eq] at hf;rcases DataW.trod_slice hk h with ⟨rfl,_⟩ | ⟨a,len,cap,YE,rest,m,_,rfl,_,_,hlc,hcm,hel,hcells,_,_⟩
   ·refine ⟨[.slice Xe (P.cellsOf e) []],?_,rfl,by simp [AV.isCell],fun i c u hc hu=>?_⟩
    ·simp only [TyR,hk];exact ⟨[],rfl,by simp,by simp⟩
    ·cases i with
     | zero => simp at hc hu; subst hc; subst hu; exact .sliceN
     | succ i => simp at hc
   ·obtain ⟨l,hl1,hl2⟩:=ZaP (Q:=fun i (p:List Value×List AV)=>w.cells? 0 (a.add (i*P.cellsOf e)) (P.cellsOf e)=Xa p.1∧TyR P d e p.2∧JI w (KR w) p.2 p.1) len fun i hi=>by
     have h1:=hcells i hi;obtain ⟨y,hy⟩:∃ y,YE[i]? = Xa y:=⟨_,Xp (by omega)⟩;rw [hy,Option.bind_eq_some_iff] at h1;obtain ⟨us,h2,h3⟩:=h1;obtain ⟨avs,h4,h5⟩:=ZjL d m e us y hf.1 h3;exact ⟨(us,avs),h2,h4,h5⟩
    have hall:∀ p∈l,TyR P d e p.2∧JI w (KR w) p.2 p.1∧p.1.length=P.cellsOf e:=by
     intro p hp;obtain ⟨i,hi⟩:=XO.1 hp;obtain ⟨g1,g2,g3⟩:=hl2 i p hi;exact ⟨g2,g3,(World.cells?_some g1).2.1⟩
    refine ⟨[.slice Xe (P.cellsOf e) (l.map (·.2))],?_,rfl,by simp [AV.isCell],fun i c u hc hu=>?_⟩
    ·simp only [TyR,hk];refine ⟨_,rfl,by simp;omega,fun y hy=>?_⟩;obtain ⟨p,hp,rfl⟩:=Xj.1 hy;exact (hall p hp).1
    ·cases i with
     | succ i => simp at hc
     | zero =>
      simp only [XB,Xf] at hc hu;subst hc;subst hu
      cases l with
      | nil =>
       have:len=0:=by simpa using hl1.symm
       subst this;exact .sliceE (fun h=>by cases h)
      | cons p l' =>
       have hcell:∀ (j:Nat) (u:Value),((p::l').map (·.1)).flatten[j]? = Xa u→w.cell? ⟨a.block,a.off+j,Xc⟩=Xa u:=by
        refine Zfo (s:=P.cellsOf e) (cell:=fun o=>w.cell? ⟨a.block,o,Xc⟩) _ a.off fun i us hi=>?_;rw [Xl] at hi
        cases hpi:(p::l')[i]? with
        | none => simp [hpi] at hi
        | some q =>
         simp only [hpi,Xw,Xf] at hi;subst hi;obtain ⟨g1,_,_⟩:=hl2 i q hpi;obtain ⟨_,k2,k3⟩:=World.cells?_some g1;refine ⟨k2,fun k u hu=>?_⟩;have hk':k < P.cellsOf e:=by rw [← k2];exact (Xk.1 hu).1
         have:=k3 k hk';rw [hu] at this
         have hblk:((a.add (i*P.cellsOf e)).add k).block=a.block∧((a.add (i*P.cellsOf e)).add k).off=a.off+i*P.cellsOf e+k:=by
          unfold Addr.add;split<;>split<;>simp_all
         have hspot:((a.add (i*P.cellsOf e)).add k).spot=Xc:=by
          unfold World.cell? at this;split at this
          ·split at this
           ·cases this
           ·rename_i hs;simpa using hs
          ·cases this
         have heq:(a.add (i*P.cellsOf e)).add k=⟨a.block,a.off+i*P.cellsOf e+k,Xc⟩:=by
          rw [← hblk.1,← hblk.2,← hspot]
         rw [heq] at this;exact this
       have hspot:a.spot=Xc:=by
        obtain ⟨g1,_,_⟩:=hl2 0 p rfl;obtain ⟨_,k2,k3⟩:=World.cells?_some g1;have:=k3 0 hf.2;obtain ⟨u,hu⟩:∃ u,p.1[0]? = Xa u:=⟨_,Xp (by rw [k2];exact hf.2)⟩;rw [hu] at this;have ha:(a.add (0*P.cellsOf e)).add 0=a:=by simp [Addr.add]
        rw [ha] at this;unfold World.cell? at this;split at this
        ·split at this
         ·cases this
         ·rename_i hs;simpa using hs
        ·cases this
       have ha:a=⟨a.block,a.off,Xc⟩:=by rw [← hspot]
       have hlen:((p::l').map (·.2)).length=len:=by rw [List.length_map];exact hl1
       rw [ha,← hlen]
       have hrel:JI w (KR w) ((p::l').map (·.2)).flatten ((p::l').map (·.1)).flatten:=by
        refine JI.flat _ _ (by simp) fun i x us hx hus=>?_;rw [Xl] at hx hus
        cases hpi:(p::l')[i]? with
        | none => simp [hpi] at hx
        | some q =>
         simp only [hpi,Xw,Xf] at hx hus;subst hx;subst hus;exact (hl2 i q hpi).2.2
       have hsz:∀ x∈(p::l').map (·.2),x.length=P.cellsOf e:=by
        intro x hx;obtain ⟨q,hq,rfl⟩:=Xj.1 hx;obtain ⟨_,g2,g3⟩:=hall q hq;rw [g2.1,g3]
       refine .sliceC (us:=((p::l').map (·.1)).flatten) hsz (fun x hx=>?_) (fun h=>by cases h) (by rw [hlen];exact hlc) (fun hne=>?_) ?_ hcell hrel.2.2
       ·obtain ⟨q,hq,rfl⟩:=Xj.1 hx;exact (hall q hq).2.1.2.1
       ·have hpos:0 < (((p::l').map (·.1)).flatten).length:=List.length_pos_iff.2 hne;have hlast:=hcell ((((p::l').map (·.1)).flatten).length-1) _ (Xp (by omega));have:=ZpF hlast;omega
       ·rw [← hrel.1,Zz _ _ hsz]
  ·rename_i fs hk;simp only [Xs,decide_eq_true_eq,XD] at hf;obtain ⟨⟨h1,h2⟩,h3⟩:=hf;obtain ⟨xs,m,_,_,hlen,hxl,hparts⟩:=DataW.trod_struct hk h;obtain ⟨ps,q1,q2,q3⟩:=Zr2 (fs.toList.map fun f=>P.cellsOf f.type) cs (by rw [hlen,h2]);have hps:ps.length=fs.size:=by rw [q1];simp
   obtain ⟨l,hl1,hl2⟩:=ZaP (Q:=fun i (avs:List AV)=>∃ (f:Field) (us:List Value),fs[i]? = Xa f∧ps[i]? = Xa us∧TyR P d f.type avs∧JI w (KR w) avs us) fs.size fun i hi=>by
    have hfi:fs[i]? = Xa fs[i]:=Array.getElem?_eq_getElem hi;have hn:(fs.toList.map fun f=>P.cellsOf f.type)[i]? = Xa (P.cellsOf fs[i].type):=by simp [hi]
    have h4:=q3 i _ hn;have h5:=hparts i _ hfi;have hoff:=h3 (fs[i],i) (by rw [List.mem_zipIdx_iff_getElem?];simp [hi]);simp only at hoff;rw [hoff,List.map_take] at h5;obtain ⟨y,hy⟩:∃ y,xs[i]? = Xa y:=⟨_,Xp (by omega)⟩;rw [hy] at h5;obtain ⟨avs,h6,h7⟩:=ZjL d m _ _ y (h1 fs[i] (by simp)) h5;exact ⟨avs,fs[i],_,hfi,h4,h6,h7⟩
   refine ⟨l.flatten,?_,?_⟩
   ·simp only [TyR,hk];refine ⟨l,rfl,hl1,fun i f p hf hp=>?_⟩;obtain ⟨f',us,g1,g2,g3,g4⟩:=hl2 i p hp;rw [hf] at g1
    cases g1
    exact g3
   ·rw [← q2];refine JI.flat _ _ (by rw [hl1,hps]) fun i avs us ha hu=>?_;obtain ⟨f',us',g1,g2,g3,g4⟩:=hl2 i avs ha;rw [hu] at g2
    cases g2
    exact g4
  ·cases hf
def Zej (P:Program) (d:Nat) (T:TypeId) (x:AV):Prop:=
 match P.underlying T with
 | some (.struct _) => ∃ cs, x = .agg cs ∧ TyR P d T cs
 | _ => x.isCell = Xb ∧ TyR P d T [x]
theorem Zrg {lim:Lm} {avs:List AV} {v:Value} (h:JI w lim avs [v]):∃ x,avs = [x]∧x.isCell=Xb∧Rep w lim x v:=by
 obtain ⟨x,rfl⟩:=List.length_eq_one_iff.1 (by simpa using h.1:avs.length=1);exact ⟨x,rfl,h.2.1 x (by simp),h.2.2 0 x v rfl rfl⟩
theorem Zqx {d:Nat} {T:TypeId} {v:Value} {x:DataW H} {ps:List MemPlace} {r:Reach} {base:Nat} (hf:ZcL P d T=Xb) (hok:Value.okWide P w r base T v)
  (h:DataW.Trod enc P w 0 sp held T v x ps):∃ y,Zej P d T y∧∀ X σ k,ZS P w (KR w) X σ k y v:=by
 obtain ⟨n,h⟩:=h;obtain ⟨avs,h1,h2⟩:=ZjL d n T _ _ hf h
 cases d with
 | zero => simp [ZcL] at hf
 | succ d =>
  have one:v.cells.toList = [v]→(∀ fs,P.underlying T≠Xa (.struct fs))→∃ y,Zej P (d+1) T y∧∀ X σ k,ZS P w (KR w) X σ k y v:=by
   intro hv hns;rw [hv] at h2;obtain ⟨y,rfl,h3,h4⟩:=Zrg h2;refine ⟨y,?_,fun X σ k=>(YT h3 h4).2⟩;unfold Zej;split
   ·rename_i fs hfs;exact (hns fs hfs).elim
   ·exact ⟨h3,h1⟩
  simp only [ZcL] at hf;split at hf
  ·rename_i kd hk;obtain ⟨z,hz,_⟩:=DataW.trod_int hk h;refine one ?_ (by rw [hk];simp);simp only [Value.okWide,hk,Cell.okWide] at hok
   cases v<;>simp_all [Cell.ok,Value.cells]
  ·rename_i hk;refine one ?_ (by rw [hk];simp);simp only [Value.okWide,hk,Cell.okWide] at hok
   cases v<;>simp_all [Cell.ok,Value.cells]
  ·rename_i hk;refine one ?_ (by rw [hk];simp);simp only [Value.okWide,hk,Cell.okWide] at hok
   cases v<;>simp_all [Cell.ok,Value.cells]
  ·rename_i e hk;refine one ?_ (by rw [hk];simp);simp only [Value.okWide,hk,Cell.okWide] at hok
   cases v<;>simp_all [Cell.ok,Value.cells]
  ·rename_i fs hk;simp only [Value.okWide,hk] at hok;obtain ⟨cs,rfl,_,_⟩:=hok;refine ⟨.agg avs,?_,?_⟩
   ·unfold Zej;simp only [hk];exact ⟨avs,rfl,h1⟩
   ·have:cs=cs.toList.toArray:=by simp
    intro X σ k;show Rep w (KR w) (.agg avs) (.agg cs);rw [this];exact .agg h2.1 h2.2.1 h2.2.2
  ·cases hf
theorem ZhC {d:Nat} {r:Reach} {base:Nat} : ∀ (ts:List TypeId) (vs:List Value) (ds:List (DataW H)) (ps:List MemPlace),(∀ t∈ts,ZcL P d t=Xb)→
  (∀ (j:Nat) (t:TypeId) (v:Value),ts[j]? = Xa t→vs[j]? = Xa v→Value.okWide P w r base t v)→DataW.TrodAll enc P w 0 sp held ts vs ds ps→
  vs.length=ts.length∧∃ xs:List AV,xs.length=ts.length∧∀ (i:Nat) (t:TypeId) (x:AV) (v:Value),ts[i]? = Xa t→xs[i]? = Xa x→vs[i]? = Xa v→Zej P d t x∧∀ X σ k,ZS P w (KR w) X σ k x v
 | [], [], [], ps, _, _, _ => ⟨rfl, [], rfl, by simp⟩
 | t :: ts, v :: vs, x :: ds, ps, hf, hok, h => by
  obtain ⟨p,q,h1,h2,_⟩:=h;obtain ⟨y,g1,g2⟩:=Zqx (hf t (by simp)) (hok 0 t v rfl rfl) h1;obtain ⟨k1,xs,k2,k3⟩:=ZhC ts vs ds q (fun t ht=>hf t (by simp [ht])) (fun j t' v' ht hv=>hok (j+1) t' v' (by simpa using ht) (by simpa using hv)) h2;refine ⟨by simp [k1],y::xs,by simp [k2],fun i t' x' v' ht hx hv=>?_⟩
  cases i with
  | zero =>
   simp only [XB,Xf] at ht hx hv;subst ht;subst hx;subst hv;exact ⟨g1,g2⟩
  | succ i => exact k3 i t' x' v' (by simpa using ht) (by simpa using hx) (by simpa using hv)
 | [], _ :: _, _, _, _, _, h => h.elim
 | [], [], _ :: _, _, _, _, h => h.elim
 | _ :: _, [], _, _, _, _, h => h.elim
 | _ :: _, _ :: _, [], _, _, _, h => h.elim
theorem ZiB {w':World} {sp':Nat→Bool} (hl:laidOutB P=Xb):∀ (ts:List TypeId) (vs:List Value) (ds:List (DataW H)) (ps:List MemPlace),(∀ t∈ts,t < P.types.size∧P.readableRec t=Xb)→
  DataW.TrodAll enc P w 0 (fun _=>Xb) Xb ts vs ds ps→(∀ p∈ps,w.sameAt w' p)→(∀ p∈ps,sp' p.block=Xb)→DataW.TrodAll enc P w' 0 sp' Xb ts vs ds ps
 | [], [], [], _, _, h, _, _ => h
 | t :: ts, v :: vs, x :: ds, ps, ht, h, hs, hp => by
  obtain ⟨p,q,⟨n,h1⟩,h2,rfl⟩:=h;refine ⟨p,q,⟨n,?_⟩,ZiB hl ts vs ds q (fun t' h'=>ht t' (by simp [h'])) h2 (fun z hz=>hs z (by simp [hz])) (fun z hz=>hp z (by simp [hz])),rfl⟩;have hr:=(ht t (by simp)).2;exact DataW.trod_stays (T:=InBook P t) (kids_book hl hr) (fun {t' e} h' hu=>book_sized hr h' hu) (fun h=>by cases h) ⟨(ht t (by simp)).1,book_self t⟩ h1 (fun z hz=>hs z (by simp [hz])) (fun z hz=>hp z (by simp [hz]))
 | [], _ :: _, _, _, _, h, _, _ => h.elim
 | [], [], _ :: _, _, _, h, _, _ => h.elim
 | _ :: _, [], _, _, _, h, _, _ => h.elim
 | _ :: _, _ :: _, [], _, _, h, _, _ => h.elim
def ZjQ (P:Program) (f:FuncId) (xs:List AV) (res:AV):Prop:=
 ∀ (w:World) (cargs:List Value),cargs.length≤xs.length→(∀ (i:Nat) (σ:Nat→AV),ZS P w (KR w) (fun _ _=>Xc) σ i (ZB xs i) (cargs.getD i undef))→
  Calls P f cargs.toArray w fun e w'=>∃ v lim' st,e = .returned v∧K7 w (KR w) w' lim' (fun _=>False) st∧Rep w' lim' res v
theorem Zib {w:World} {lim:Lm} {X:Nat→Nat→Option Nat} {P:Program} {outs:List AV} {z v:Value} {n:Nat} {cargs:List Value} (hol:outs.length=n) (h:∀ i,ZS P w lim X (ZB (outs++[.val z])) i (ZB (outs++[.val z]) i) (Zaz n cargs v i)):Rep w lim (.val z) v:=by
 have h:=h n
 have h1:ZB (outs++[.val z]) n = .val z:=by
  simp only [ZB];rw [Xz (by omega),hol];simp
 have h2:Zaz n cargs v n=v:=if_pos rfl;rw [h1,h2] at h;exact h
theorem JN.entry {P:Program} {f:FuncId} {xs outs:List AV} {z:Value} (h:JN P f xs (.val z) outs) (hng:xs.countP AV.isG=0):ZjQ P f xs (.val z):=by
 intro w cargs hl hrel;refine (h.2.2 w (KR w) (fun _ _=>Xc) cargs (by omega) (fun i=>hrel i _) (fun _ _ _ _ _ h=>by cases h) (fun _ _ _ h=>by cases h) (fun _ _ _=>rfl)).mono ?_;rintro e w' ⟨v,lim',X',rfl,hst,hol,hr,_⟩;exact ⟨v,lim',_,rfl,⟨hst.os,hst.tape,hst.output,hst.size,hst.frz,fun b hb _=>hst.blk b hb (by rintro ⟨_,_,h⟩;cases h),hst.ext,hst.t⟩,Zib hol hr⟩
theorem JN.entryS {P:Program} {f:FuncId} {xs outs:List AV} {z:Value} {p:Nat} (h:JN P f (xs++(Xg p .dead++[.store []])) (.val z) outs) (hng:xs.countP AV.isG=0):ZjQ P f xs (.val z):=by
 intro w cargs hl hrel;refine (h.2.2 w (KR w) (fun _ _=>Xc) cargs ?_ (fun i=>?_) (fun _ _ _ _ _ h=>by cases h) (fun _ _ _ h=>by cases h) (fun _ _ _=>rfl)).mono ?_
 ·have h1:(Xg p AV.dead).countP AV.isG=0:=List.countP_eq_zero.2 fun x hx=>by rw [(List.mem_replicate.1 hx).2];simp [AV.isG]
  have h2 : [AV.store []].countP AV.isG=1:=rfl;rw [U9,U9,hng,h1,h2,Xu,Xu];simp only [List.length_replicate,List.length_singleton];omega
 ·rcases XG i xs.length with hi | hi
  ·have:ZB (xs++(Xg p .dead++[.store []])) i=ZB xs i:=by simp only [ZB];rw [Xx hi]
   rw [this];exact hrel i _
  ·have hc:ZB (xs++(Xg p .dead++[.store []])) i = .dead∨ZB (xs++(Xg p .dead++[.store []])) i = .store []:=by
    simp only [ZB];rw [Xz hi];rcases XG (i-xs.length) p with h1 | h1
    ·rw [Xx (by simpa using h1),List.getElem?_replicate,if_pos h1];exact .inl rfl
    ·rw [Xz (by simpa using h1)]
     cases hj:i-xs.length-(Xg p AV.dead).length with
     | zero => exact .inr rfl
     | succ j => exact .inl rfl
   rcases hc with hc | hc
   ·rw [hc];trivial
   ·rw [hc];exact ⟨fun _ _=>rfl,rfl,fun j row hr=>by simp at hr⟩
 ·rintro e w' ⟨v,lim',X',rfl,hst,hol,hr,_⟩;exact ⟨v,lim',_,rfl,⟨hst.os,hst.tape,hst.output,hst.size,hst.frz,fun b hb _=>hst.blk b hb (by rintro ⟨_,_,h⟩;cases h),hst.ext,hst.t⟩,Zib hol hr⟩
theorem ZgX {fn:Func} {f:FuncId} {s:ChangeSpec} {apart fresh handsOn again:Bool} {tb:TypeId} {d:Nat} (hl:laidOutB P=Xb) (hpar:∀ t∈fn.params.toList,ZcL P d t=Xb∧t < P.types.size∧P.readableRec t=Xb)
  (hres:fn.resultTypes = #[tb]) (htb:P.underlying tb=Xa .bool) (hvars:s.vars = []) (hs:∀ ds,ds.length=fn.params.size→s.fn H ds = { results:=[.lit (.bool Xb)],args:=ds })
  (hcall:∀ xs:List AV,xs.length=fn.params.toList.length→(∀ (i:Nat) (t:TypeId) (x:AV),fn.params.toList[i]? = Xa t→xs[i]? = Xa x→Zej P d t x)→ZjQ P f xs (B Xb))
  (W:World) (base:Nat) (args:Array Value) (ds gs:List (DataW H)) (before:List MemPlace)
  (hval:∀ (j:Nat) t v,fn.params[j]? = Xa t→args[j]? = Xa v→Value.okWide P W .any base t v) (hW:DataW.Whole enc P fn.params.toList s.vars apart W args.toList ds gs before) :
  Calls P f args W fun e W'=>∃ v,e = .returned v∧s.post enc P fn apart fresh handsOn again W args v W':=by
 have hW':=hW;obtain ⟨p,q,hA,hV,rfl,_,_⟩:=hW;rw [hvars] at hV;obtain ⟨rfl,rfl⟩:=ChangeShapes.trodVars_none hV;obtain ⟨hlen,xs,hx1,hx2⟩:=ZhC (r:=.any) (base:=base) _ _ _ _ (fun t ht=>(hpar t ht).1) (fun j t v ht hv=>hval j t v (by simpa using ht) (by simpa using hv)) hA
 have hdl:ds.length=fn.params.size:=by
  have:∀ (ts:List TypeId) (vs:List Value) (ds:List (DataW H)) (ps:List MemPlace),DataW.TrodAll enc P W 0 (fun _=>Xb) Xb ts vs ds ps→ds.length=ts.length:=by
   intro ts
   induction ts with
   | nil => intro vs ds ps h; cases vs <;> cases ds <;> simp_all [DataW.TrodAll]
   | cons t ts ih =>
    intro vs ds ps h
    cases vs with
    | nil => exact h.elim
    | cons v vs =>
     cases ds with
     | nil => exact h.elim
     | cons x ds => obtain ⟨_, _, _, h2, _⟩ := h; simp [ih _ _ _ h2]
  simpa using this _ _ _ _ hA
 have hc:=hcall xs hx1 fun i t x ht hx=>by
  obtain ⟨v,hv⟩:∃ v,args.toList[i]? = Xa v:=⟨_,Xp (by rw [hlen];exact (Xk.1 ht).1)⟩;exact (hx2 i t x v ht hx hv).1
 have hng:xs.countP AV.isG=0:=by
  rw [List.countP_eq_zero];intro x hx hg;obtain ⟨i,hi⟩:=XO.1 hx;have hlt:=(Xk.1 hi).1;obtain ⟨v,hv⟩:∃ v,args.toList[i]? = Xa v:=⟨_,Xp (by omega)⟩;obtain ⟨t,ht⟩:∃ t,fn.params.toList[i]? = Xa t:=⟨_,Xp (by omega)⟩;have hr:=(hx2 i t x v ht hi hv).2 (fun _ _=>Xc) (fun _=>.dead) 0;have hty:=(hx2 i t x v ht hi hv).1
  cases x<;>simp [AV.isG] at hg
  ·obtain ⟨v',b,_,_,h,_⟩:=hr
   cases h
  ·unfold Zej at hty;split at hty
   ·obtain ⟨cs,h,_⟩:=hty;cases h
   ·cases hty.1
 have hcalls:=hc W args.toList (by rw [hlen,hx1];exact Nat.le_refl _) (fun i σ=>by
  cases hxi:xs[i]? with
  | none =>
   have:ZB xs i = .dead:=by simp [ZB,hxi]
   rw [this];trivial
  | some x =>
   have hi:=(Xk.1 hxi).1;obtain ⟨v,hv⟩:∃ v,args.toList[i]? = Xa v:=⟨_,Xp (by omega)⟩;obtain ⟨t,ht⟩:∃ t,fn.params.toList[i]? = Xa t:=⟨_,Xp (by omega)⟩;have h1:ZB xs i=x:=by simp [ZB,hxi]
   have h2:args.toList.getD i undef=v:=by rw [List.getD_eq_getElem?_getD,hv];rfl
   rw [h1,h2];exact (hx2 i t x v ht hxi hv).2 _ _ _)
 rw [Array.toArray_toList] at hcalls;refine hcalls.mono ?_;rintro e W' ⟨v,lim',st,rfl,hst,hrep⟩;have hv:v = .bool Xb:=YU hrep;subst hv;have hkept:∀ b,b < W.heap.size→W'.heap[b]? = W.heap[b]?:=fun b hb=>(hst.blk b hb fun h=>h).1
 have hsame:∀ z∈p++[],W.sameAt W' z:=by
  intro z hz;have hlt:=hW'.lt z hz
  cases z with
  | cell b off =>
   show W'.cell? ⟨b,off,Xc⟩=W.cell? ⟨b,off,Xc⟩;unfold World.cell?;rw [hkept b hlt]
  | map b => exact hkept b hlt
 refine ⟨_,rfl,ZlZ (pa:=p) hW' (fun b sp hd=>?_) (fun sp hp=>?_) (fun sp _=>?_) rfl ?_ hst.frz ?_⟩
 ·rw [hs _ (by simpa using hdl),hres];exact ⟨[],[],⟨1,by simp [DataW.trod,htb,Value.cells]⟩,rfl,rfl⟩
 ·rw [hs _ (by simpa using hdl),XN];exact ZiB hl _ _ _ _ (fun t ht=>(hpar t ht).2) hA (fun z hz=>hsame z (by simpa using hz)) (fun z hz=>hp z (by simpa using hz))
 ·rw [hs _ (by simpa using hdl),hvars];rfl
 ·refine ⟨hst.os,hst.output,fun i hi=>?_⟩;rw [hkept i hi]
  cases W.heap[i]? with
  | none => rfl
  | some o => cases o <;> simp
 ·exact RowKit.ok_one hres rfl (RowKit.okWide_bool_mk htb Xb)
end
open Go
def blank:Char:=Char.ofNat 32
theorem ZiX (r:List Char):wordsSigns (blank::r) = []::wordsSigns r:=by
 show wordsSigns (Char.ofNat 32::r)=_;rw [wordsSigns]
theorem Zi9 (c:Char) (r:List Char) (h:c≠blank):wordsSigns (c::r)=match wordsSigns r with | w::ws=>(c::w)::ws | []=>[[c]]:=by
 rw [wordsSigns]
 ·rfl
 ·exact h
theorem W7 (r:List Char):∀ (w:List Char),(w.all fun c=>c != blank)=Xb→wordsSigns (w++blank::r)=w::wordsSigns r
 | [], _ => ZiX r
 | c :: w, h => by
  rw [List.all_cons,Xs] at h;rw [List.cons_append,Zi9 c _ (by simpa using h.1),W7 r w h.2]
theorem Zhd {L:List Char} (h1:((L.take 7).all fun c=>c != blank)=Xb) (h2:(((L.drop 8).take 64).all fun c=>c != blank)=Xb) (h3:(((L.drop 73).take 3).all fun c=>c != blank)=Xb)
  (hL : L = L.take 7 ++ blank :: ((L.drop 8).take 64 ++ blank :: ((L.drop 73).take 3 ++ blank :: L.drop 77))) (hm : ((L.take 7 == "harness".toList || L.take 7 == "ownmain".toList) && isSumSigns ((L.drop 8).take 64)) = Xb)
  (hc : (L.drop 73).take 3 = "cut".toList) : ∃ ws, behindMainWord (wordsSigns L) = "cut".toList :: ws := by
 refine ⟨wordsSigns (L.drop 77),?_⟩
 have h:wordsSigns L=L.take 7::(L.drop 8).take 64::(L.drop 73).take 3::wordsSigns (L.drop 77):=by
  rw [hL,W7 _ _ h1,W7 _ _ h2,W7 _ _ h3,← hL]
 rw [h,behindMainWord,if_pos hm,hc]
theorem enters_of {P : Program} {ws : List (List Char)} (h : behindMainWord (wordsSigns P.initOrder.toList) = "cut".toList :: ws) (h1 : P.laysLater = Xe) (h2 : P.bearsReflect = Xe) (h3 : P.doorFits [] = Xb) : P.mayEnter = Xb := by
 unfold Program.mayEnter;rw [h];have hs : stripLifts liftWords ("cut".toList :: ws) = ([], "cut".toList :: ws) := by kernel_rfl
 simp only [hs];simp [h1,h2,h3]
theorem lifts_of {P : Program} {ws : List (List Char)} (h : behindMainWord (wordsSigns P.initOrder.toList) = "cut".toList :: ws) : P.headLifts = [] := by
 unfold Program.headLifts;rw [h];have hs : stripLifts liftWords ("cut".toList :: ws) = ([], "cut".toList :: ws) := by kernel_rfl
 simp only [hs];simp
theorem final_of {P : Program} {ws : List (List Char)} (h : behindMainWord (wordsSigns P.initOrder.toList) = "cut".toList :: ws) : P.liftsFinal = Xe := by
 unfold Program.liftsFinal;rw [lifts_of h,h];have hs : ("cut".toList == "carried".toList) = Xe := by decide +kernel
 simp [hs]
theorem make_of {P : Program} {ws : List (List Char)} (h : behindMainWord (wordsSigns P.initOrder.toList) = "cut".toList :: ws) : P.make = Xa .cut := by
 unfold Program.make;rw [h];simp
end Go.AM
namespace Go.Proofs.Ytpjnmgjphfnmmaa
open Go Go.AM
set_option maxRecDepth 100000
theorem behind : ∃ ws, behindMainWord (wordsSigns Try.prog.initOrder.toList) = "cut".toList :: ws := by
 have h:Try.prog.initOrder.toList=_:=String.toList_ofList (l:=_);rw [h];exact Zhd (by kernel_rfl) (by kernel_rfl) (by kernel_rfl) (by kernel_rfl) (by kernel_rfl) (by kernel_rfl)
theorem Zv3:Try.prog.mayEnter=Xb:=behind.elim fun _ h=>Go.AM.enters_of h (by kernel_rfl) (by kernel_rfl) (by kernel_rfl)
theorem Zwi:Try.prog.liftsFinal=Xe:=behind.elim fun _ h=>Go.AM.final_of h
theorem Zvc:Try.prog.make=Xa .cut:=behind.elim fun _ h=>Go.AM.make_of h
theorem laid:laidOutB Try.prog=Xb:=by kernel_rfl
theorem Zns:ownKnob Try.prog.godebug=Xc:=by kernel_rfl
theorem ZhQ {d:Nat} {cs:List AV} (h:TyR Try.prog (d+1) 3 cs):∃ z,cs = [I z]:=by
 simp only [TyR,Try.underlying3] at h;obtain ⟨z,h,_⟩:=h;exact ⟨z,h⟩
theorem ZtU {d:Nat} {cs:List AV} (h:TyR Try.prog (d+1) 4 cs):∃ z,cs = [B z]:=by
 simp only [TyR,Try.underlying4] at h;exact h
theorem arg_int {x:AV} (h:Zej Try.prog 8 3 x):∃ z,x=I z:=by
 simp only [Zej,Try.underlying3] at h;obtain ⟨z,hz⟩:=ZhQ h.2;exact ⟨z,by simpa using hz⟩
theorem Zhs {α β:Type} {f:α→β} {p:α→Prop} : ∀ (xs:List β),(∀ x∈xs,∃ a,x=f a∧p a)→∃ l:List α,xs=l.map f∧∀ a∈l,p a
 | [], _ => ⟨[], rfl, by simp⟩
 | x :: xs, h => by
  obtain ⟨a,h1,h2⟩:=h x (by simp);obtain ⟨l,h3,h4⟩:=Zhs xs fun y hy=>h y (by simp [hy]);refine ⟨a::l,by rw [h1,h3];rfl,fun b hb=>?_⟩;rcases List.mem_cons.1 hb with rfl | hb
  ·exact h2
  ·exact h4 b hb
def ZsF:List TypeId:=[3,4,22,23,46]
theorem Zww (t:TypeId) (h:ZsF.contains t=Xb):ZcL Try.prog 8 t=Xb∧t < Try.prog.types.size∧Try.prog.readableRec t=Xb:=by
 have h2:ZsF.all (fun t=>ZcL Try.prog 8 t&&decide (t < Try.prog.types.size)&&Try.prog.readableRec t)=Xb:=by kernel_rfl
 rw [XD] at h2;have:=h2 t (by simpa using h);simpa [and_assoc] using this
open Go Go.AM Go.W
set_option maxRecDepth 100000
theorem Ztt:Try.prog.cellsOf 52=6:=by kernel_rfl
theorem Zu1 {d:Nat} {cs:List AV} (h:TyR Try.prog (d+1) 9 cs):∃ s,cs = [.val (.string s)]:=by
 simp only [TyR,Try.underlying9] at h;exact h
theorem Zt0 {d:Nat} {cs:List AV} (h:TyR Try.prog (d+2) 52 cs):∃ s:ZqF,cs=stepc s:=by
 rw [TyR] at h;simp only [Try.underlying52] at h;obtain ⟨ps,rfl,hl,hp⟩:=h
 obtain ⟨p0,p1,p2,p3,p4,p5,rfl⟩:∃ p0 p1 p2 p3 p4 p5,ps = [p0,p1,p2,p3,p4,p5]:=by
  match ps,hl with
  | [p0, p1, p2, p3, p4, p5], _ => exact ⟨p0, p1, p2, p3, p4, p5, rfl⟩
 obtain ⟨a,rfl⟩:=ZhQ (hp 0 _ _ rfl rfl);obtain ⟨b,rfl⟩:=ZhQ (hp 1 _ _ rfl rfl);obtain ⟨c,rfl⟩:=ZhQ (hp 2 _ _ rfl rfl);obtain ⟨e,rfl⟩:=ZhQ (hp 3 _ _ rfl rfl);obtain ⟨f,rfl⟩:=ZtU (hp 4 _ _ rfl rfl);obtain ⟨g,rfl⟩:=Zu1 (hp 5 _ _ rfl rfl);exact ⟨⟨a,b,c,e,f,g⟩,rfl⟩
theorem ZhY {x:AV} (h:Zej Try.prog 8 46 x):∃ l:List ZqF,x = .slice Xe 6 (l.map stepc)∧l.length≤maxLen:=by
 simp only [Zej,Try.underlying46] at h;have hh:=h.2;rw [TyR] at hh;simp only [Try.underlying46,Ztt] at hh;obtain ⟨xs,h1,h2,h3⟩:=hh;obtain ⟨l,rfl,h5⟩:=Zhs (f:=stepc) (p:=fun _=>True) xs fun y hy=>(Zt0 (h3 y hy)).elim fun a h=>⟨a,h,trivial⟩;exact ⟨l,by simpa using h1,by simpa using h2⟩
end Go.Proofs.Ytpjnmgjphfnmmaa
