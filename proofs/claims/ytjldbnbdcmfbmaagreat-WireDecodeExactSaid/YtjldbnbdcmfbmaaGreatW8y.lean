import Derived.Test.YtjldbnbdcmfbmaaGreatM6
import Derived.Test.YtjldbnbdcmfbmaaGreatM5
import Derived.Test.YtjldbnbdcmfbmaaGreatF8h
open List renaming length_nil→Xm,getElem?_map→Xy,length_set→U6
set_option linter.unusedVariables false
set_option linter.unusedSimpArgs false
set_option linter.defProp false
namespace Go.Proofs.YtjldbnbdcmfbmaaGreat
open Go Go.AM
set_option maxRecDepth 100000
def Zld {s:JD} (h:s.Good):s.Fits:=
 ⟨by have:=h.slots;omega,by have:=h.pending;omega,by have:=h.marks;omega,by have:=h.answers;omega,by have:=h.entries;omega,by have:=h.commits;omega,fun x a=>(h.slot x a).1,fun x a=>(h.req x a).path,fun x a=>(h.entry x a).2.2⟩
def Zlh {v:Vu} (h:v.Good):v.Fits:=⟨by have:=h.members;omega,by have:=h.owners;omega⟩
def Ztv {m:Msg} (h:m.Good):m.Fits:=
 ⟨h.req.path,by have:=h.idsn;omega,by have:=h.nodesn;omega,h.nodes,by have:=h.coresn;omega,by have:=h.movesn;omega,Zlh h.next,Zld h.state,⟨Zlh h.report.view,Zld h.report.state,Zlh h.report.next,Zld h.report.proposal⟩⟩
def ZqZ {a:List Int} {r b:Qt4} (h:ZCi a r) (c:ZCi a b):∃ (m:Msg) (e:Int),m.Fits∧r=Zf0 m e∧b=Zf0 m e:=by
 rcases h with ⟨m,gm,hm,rfl⟩ | ⟨hn,rfl⟩
 ·rcases c with ⟨w,gw,hw,rfl⟩ | ⟨hn',_⟩
  ·have:=(ZA2 m w [] [] gm gw (by rw [hm,hw])).1;subst this;exact ⟨m,0,Ztv gm.good,rfl,rfl⟩
  ·exact absurd hm (hn' m gm)
 ·rcases c with ⟨w,gw,hw,_⟩ | ⟨_,rfl⟩
  ·exact absurd hw (hn w gw)
  ·exact ⟨Zzz,14,(Zlt (Nat.le_refl _) (Zp 1000000 0 0 0 0)).1.fits,rfl,rfl⟩
def ZpY (l:List Int) (n:Nat) (z:Int):Jk (Za l) n 0 [AV.val (.int .u8 z)]=Za (l.set n z):=by
 apply List.ext_getElem?;intro j;unfold Jk Za;rw [List.getElem?_modify,Xy,Xy,List.getElem?_set];by_cases h:n=j
 ·subst h;rw [P4 rfl];by_cases hl:n < l.length
  ·rw [List.getElem?_eq_getElem hl,P4 hl];simp [setCells,u8c]
  ·rw [List.getElem?_eq_none (by omega),P3 hl];rfl
 ·rw [P3 h];simp [h]
def s4 (j:List Int) (t:Zq j) (a:Int) (l:List Int) (C:RL l) (k:l.length < 2^63) (b:List Zxa) (D:b.length < 2^63) (g z:Int) (E:0≤z) (R:z < 256):g4 (Za j) a (Zd l) (b.map Zck) g z=some true:=by
 have o:Ret (fun r=>r=true) (g4 (Za j) a (Zd l) (b.map Zck) g z):=by
  rw [ZGO];refine Zo (fun _=>Zv9) fun i=>Zo (fun _=>Zv9) fun _=>?_;simp only [CQ,ZB] at i;refine Zb (s11 b D) fun r ⟨f,G,c⟩=>?_;subst c;refine Zb (s10 a l k f 30 G (by omega)) fun r ⟨m,c,u,p,H⟩=>?_;subst c;have J:=p.gm (H C) u;have v:=s15 m p.fits fun _=>J.good;rw [u,P4 rfl] at v;have L:=ZvH p
  have M:1≤(ZeY m).length:=by
   have:=VK m.kind;simp only [ZeY,Yk,List.length_append];omega
  refine Jb v (Zc (P3 (Zt (by kernel_rfl))) ?_);dsimp only;rw [ZB];refine Zc (P3 (by simp only [CQ];omega)) ?_;refine Zb (place _ _ (by omega) (by omega)) fun n N=>?_;refine Zl (by omega) (Zl (by omega) (Zl (by omega) (Zl (by omega) ?_)));refine Zl (Jn (by rw [ZB,Xm];omega) (by omega)) ?_;refine Zb (s17 t (by omega)) fun r c=>?_;refine Zb (s18 t (by omega)) fun O d=>?_;obtain ⟨q,e,w,rfl,rfl⟩:=ZqZ c d;simp only [ZpY]
  have y:Zq ((ZeY m).set n.toNat z):=fun x Q=>by
   rcases List.mem_or_eq_of_mem_set Q with h | h
   ·exact Zo0 m x h
   ·rw [h];exact ⟨E,by omega⟩
  refine Zl (Jn (by rw [ZB,Xm,U6];omega) (by omega)) ?_;refine Zb (s17 y (by rw [U6];omega)) fun r c=>?_;refine Zb (s18 y (by rw [U6];omega)) fun O d=>?_;obtain ⟨s,e',A,rfl,rfl⟩:=ZqZ c d;refine Jb (s19 q q w w) (Zc (P4 (ZfR q)) (Zc (P4 (by simp [P0,Zf0])) ?_));exact Jb (s19 s s A A) (Zc (P4 (ZfR s)) (Zc (P4 (by simp [P0,Zf0])) Zv9))
 obtain ⟨r,e,rfl⟩:=o;exact e
def ZtB:Tryz.prog.cellsOf 5=1:=by kernel_rfl
def ZnX {x:AV} (h:Zap Tryz.prog 12 56 x):∃ l:List Int,x = .slice false 1 (Za l)∧l.length < 2^63∧Zq l:=by
 simp only [Zap,Tryz.underlying56] at h;have a:=h.2;rw [TyZ] at a;simp only [Tryz.underlying56,ZtB] at a;obtain ⟨xs,b,m,a,c⟩:=a;have d:IntKind.u8.min=0:=by decide
 have e:IntKind.u8.max=255:=by decide
 obtain ⟨l,rfl,g⟩:=ZbD (f:=u8c) (p:=fun z=>0≤z∧z≤255) xs fun y i=>by
  have h:=c y i;simp only [TyZ,Tryz.underlying5] at h;obtain ⟨z,j,k⟩:=h;simp [Lit.wf,d,e] at k;exact ⟨z,by simpa [u8c] using j,by omega⟩
 exact ⟨l,by simpa [Za] using b,ZFy (by simpa using a),g⟩
end Go.Proofs.YtjldbnbdcmfbmaaGreat
