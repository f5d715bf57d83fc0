/- Yj, Yk: texts of the proof, put together. -/
import Derived.Test.YtlgmnddelljbmaaGreatM7

section
namespace Go.Proofs.YtlgmnddelljbmaaGreat
open Go Go.AM
set_option linter.unusedSimpArgs false
set_option linter.unusedVariables false
set_option maxRecDepth 100000
set_option synthInstance.maxSize 2000
def Zfh (K:Int) (i:Id) (P:List Int) (out:LL):Prop:=out.length=P.length∧∀ j (hj:j < P.length),∃ c ids nodes,out[j]? = some c∧Zgr hs0 c=some (mV K P[j] 0 i 0 false ids nodes)
theorem Zpt (K:Int) (i:Id) (P:List Int):Zfh K i P (P.map (fun z=>mM K z 0 i 0 false E0)):=⟨by simp,fun j hj=>⟨mM K P[j] 0 i 0 false E0,E0,E0,by rw [List.getElem?_map,List.getElem?_eq_getElem hj];rfl,ofm ..⟩⟩
theorem Zti (i:Id) (P:List Int) (h:Int→LL):Zfh 6 i P (P.map (fun z=>mI 6 z i (h z))):=⟨by simp,fun j hj=>⟨mI 6 P[j] i (h P[j]),h P[j],E0,by rw [List.getElem?_map,List.getElem?_eq_getElem hj];rfl,ofi ..⟩⟩
theorem ZiZ {γ:Type} {Q:γ→Prop} {K:Int} {i:Id} {P:List Int} {out:LL} (h:Zfh K i P out) {j:Nat} (hj:j < P.length) {k:Qt3→Option γ} (hk:∀ ids nodes,Ret Q (k (mV K P[j] 0 i 0 false ids nodes))):Ret Q (Zt out (j:Int) hs0 k):=by
 obtain ⟨c,ids,nodes,h1,h2⟩:=h.2 j hj
 exact Zh (Y5 (r:=mV K P[j] 0 i 0 false ids nodes) _ (Int.natCast_nonneg j) h1 h2) (hk ids nodes)
theorem ZjY {P:List Int} {j:Nat} (hj:j < P.length):P.drop j=P[j]::P.drop (j+1):=List.drop_eq_getElem_cons hj
theorem ZsB {Q:Bool→Prop} (rec0:List V→Option Bool) (f:List Zq) (hF:Zab f) (hl:f.length < 100) (e:Zq) (r:Req) (P:List Int) (hP:P.length < 900) (h1:P≠[]) (hA:P.Pairwise (· < ·)) (out:LL) (p:Nat) (hp:p < 3) (K R ph ph':Int) (hK : [6,8,10,2][p]? = some K) (hR : [7,9,11][p]? = some R) (hO:Zfh K r.id P out) (g g':List Zq) (hF2:Zab g') (dm next w' cms:LL) (hg:g'=if p=0 then f else f.filter fun x=>!x.node.path.contains e.node.id) (hcm:(cms.length:Int)=if p=1 then 1 else 0)
    (H:∀ (z:Int) (W:List Int),z∈P→(z::W).Pairwise (· < ·)→W.length < 900→Ret (fun x=>(W = []→x=(next,cms,oT (g'.map Ze) E0 r ph' w' (Za P) dm))∧(W≠[]→x=(E0,E0,oT (g.map Ze) E0 r ph (Za W) (Za P) dm))) (g18 0 0 16 false (g.map Ze) E0 r.id.core r.id.op r.id.part r.call.kind r.call.slot r.call.dest r.call.core r.call.mask r.call.object r.call.bits r.call.level r.call.offset r.call.count r.call.index r.call.addr r.region r.width r.src.id.core r.src.id.op r.src.id.part (Zb r.src.path) r.src.cap.kind r.src.cap.base r.src.cap.bits r.src.cap.rights r.src.cap.width r.src.cap.level r.src.cap.device ph (Za (z::W)) (Za P) dm R 0 z 0 0 0 0 r.id.core r.id.op r.id.part 0 false 0 0 0 0 0 0 0 0 0 0 0 0 0 0 0 0 0 0 0 0 E0 0 0 0 0 0 0 false E0 E0 E0 E0 0 0 E0 E0 E0 E0 E0 E0 E0 E0 0 0 E0 E0 E0 E0 E0 E0 E0 E0 false 0 E0 E0 E0 E0 E0 E0 E0 E0))
    (hrec:Ret Q (rec0 [.l (f.map Ze),.i e.core,.i e.slot,.i e.node.id.core,.i e.node.id.op,.i e.node.id.part,.l (Zb e.node.path),.i e.node.cap.kind,.i e.node.cap.base,.i e.node.cap.bits,.i e.node.cap.rights,.i e.node.cap.width,.i e.node.cap.level,.b e.node.cap.device,.i r.id.core,.i r.id.op,.i r.id.part,.i r.call.kind,.i r.call.slot,.i r.call.dest,.i r.call.core,.i r.call.mask,.i r.call.object,.i r.call.bits,.i r.call.level,.i r.call.offset,.i r.call.count,.i r.call.index,.i r.call.addr,.i r.region,.i r.width,.i r.src.id.core,.i r.src.id.op,.i r.src.id.part,.l (Zb r.src.path),.i r.src.cap.kind,.i r.src.cap.base,.i r.src.cap.bits,.i r.src.cap.rights,.i r.src.cap.width,.i r.src.cap.level,.b r.src.cap.device,.l next,.l (Za P),.l (Za [6,8,10,2]),.l (Za [7,9,11]),.i ((p+1:Nat):Int),.i 0,.i 0,.i 16,.b false,.l (g'.map Ze),.l E0,.i r.id.core,.i r.id.op,.i r.id.part,.i r.call.kind,.i r.call.slot,.i r.call.dest,.i r.call.core,.i r.call.mask,.i r.call.object,.i r.call.bits,.i r.call.level,.i r.call.offset,.i r.call.count,.i r.call.index,.i r.call.addr,.i r.region,.i r.width,.i r.src.id.core,.i r.src.id.op,.i r.src.id.part,.l (Zb r.src.path),.i r.src.cap.kind,.i r.src.cap.base,.i r.src.cap.bits,.i r.src.cap.rights,.i r.src.cap.width,.i r.src.cap.level,.b r.src.cap.device,.i ph',.l w',.l (Za P),.l dm])) :
    Ret Q (ZoM rec0 Jn (f.map Ze) e.core e.slot e.node.id.core e.node.id.op e.node.id.part (Zb e.node.path) e.node.cap.kind e.node.cap.base e.node.cap.bits e.node.cap.rights e.node.cap.width e.node.cap.level e.node.cap.device r.id.core r.id.op r.id.part r.call.kind r.call.slot r.call.dest r.call.core r.call.mask r.call.object r.call.bits r.call.level r.call.offset r.call.count r.call.index r.call.addr r.region r.width r.src.id.core r.src.id.op r.src.id.part (Zb r.src.path) r.src.cap.kind r.src.cap.base r.src.cap.bits r.src.cap.rights r.src.cap.width r.src.cap.level r.src.cap.device out (Za P) (Za [6,8,10,2]) (Za [7,9,11]) (p:Int) E0 0 0 0 0 16 false (g.map Ze) E0 r.id.core r.id.op r.id.part r.call.kind r.call.slot r.call.dest r.call.core r.call.mask r.call.object r.call.bits r.call.level r.call.offset r.call.count r.call.index r.call.addr r.region r.width r.src.id.core r.src.id.op r.src.id.part (Zb r.src.path) r.src.cap.kind r.src.cap.base r.src.cap.bits r.src.cap.rights r.src.cap.width r.src.cap.level r.src.cap.device ph (Za P) (Za P) dm):=by
  refine ZR (F:=fun k (s:LL×Int×LL×LL×Int) i=>ZoM rec0 k (f.map Ze) e.core e.slot e.node.id.core e.node.id.op e.node.id.part (Zb e.node.path) e.node.cap.kind e.node.cap.base e.node.cap.bits e.node.cap.rights e.node.cap.width e.node.cap.level e.node.cap.device r.id.core r.id.op r.id.part r.call.kind r.call.slot r.call.dest r.call.core r.call.mask r.call.object r.call.bits r.call.level r.call.offset r.call.count r.call.index r.call.addr r.region r.width r.src.id.core r.src.id.op r.src.id.part (Zb r.src.path) r.src.cap.kind r.src.cap.base r.src.cap.bits r.src.cap.rights r.src.cap.width r.src.cap.level r.src.cap.device out (Za P) (Za [6,8,10,2]) (Za [7,9,11]) (p:Int) s.1 s.2.1 i 0 0 16 false s.2.2.1 E0 r.id.core r.id.op r.id.part r.call.kind r.call.slot r.call.dest r.call.core r.call.mask r.call.object r.call.bits r.call.level r.call.offset r.call.count r.call.index r.call.addr r.region r.width r.src.id.core r.src.id.op r.src.id.part (Zb r.src.path) r.src.cap.kind r.src.cap.base r.src.cap.bits r.src.cap.rights r.src.cap.width r.src.cap.level r.src.cap.device s.2.2.2.2 s.2.2.2.1 (Za P) dm) P.length (fun j s=>(j < P.length→s=(E0,0,g.map Ze,Za (P.drop j),ph))∧(j=P.length→s=(next,(cms.length:Int),g'.map Ze,w',ph'))) (by omega) (fun k j s hj hJ step=>?_) (E0,0,g.map Ze,(Za P),ph) ⟨fun _=>rfl,fun h=>absurd (List.eq_nil_of_length_eq_zero h.symm) h1⟩
  refine Zh (Zn2 ..) (Zc (fun h=>?_) fun h=>?_)
  · simp only [CQ,Jp] at h
    have hj':j < P.length:=by omega
    obtain rfl:=hJ.1 hj'
    have hd:=ZjY hj'
    have hasc:(P[j]::P.drop (j+1)).Pairwise (· < ·):=hd ▸ hA.sublist (List.drop_sublist _ _)
    have hHj:=H P[j] (P.drop (j+1)) (List.getElem_mem hj') hasc (by rw [List.length_drop];omega)
    rw [← hd] at hHj
    have hKi:∃ h:p < [6,8,10,2].length,([6,8,10,2] : List Int)[p]=K:=⟨by simp;omega,by rw [List.getElem?_eq_getElem (by simp;omega),Option.some.injEq] at hK;exact hK⟩
    have hRi:∃ h:p < [7,9,11].length,([7,9,11] : List Int)[p]=R:=⟨by simp;omega,by rw [List.getElem?_eq_getElem (by simp;omega),Option.some.injEq] at hR;exact hR⟩
    obtain ⟨kp,hKe⟩:=hKi
    obtain ⟨rp,hRe⟩:=hRi
    refine ZiZ hO hj' fun ids nodes=>Zh (JA kp _) (Zc (fun h=>?_) fun _=>ZiZ hO hj' fun ids nodes=>Zh (JA hj' _) (Zc (fun h=>?_) fun _=>ZiZ hO hj' fun ids nodes=>Zc (fun h=>?_) fun _=>Zc (fun h=>?_) fun _=>Zh (JA rp _) (Zh (JA hj' _) ?_)))
    · exfalso;rw [hKe] at h;simp only [mV,CQ] at h;exact h rfl
    · exfalso;simp only [mV,CQ] at h;exact h rfl
    · exfalso;simp [mV,CQ] at h
    · exfalso;simp only [CQ,List.length_nil] at h;omega
    · rw [hRe]
      refine ZJ hHj fun x hx=>?_
      rw [YD hj (by omega)]
      by_cases hlast:j+1=P.length
      · have hx':=hx.1 (List.drop_eq_nil_of_le (by omega))
        subst hx'
        have e0:iop .add .i64 (0:Int) (cms.length:Int)=(cms.length:Int):=by rw [Kg (by omega) (by split at hcm<;>omega)];omega
        refine Zh (congrArg (fun c=>ZoM rec0 k (f.map Ze) e.core e.slot e.node.id.core e.node.id.op e.node.id.part (Zb e.node.path) e.node.cap.kind e.node.cap.base e.node.cap.bits e.node.cap.rights e.node.cap.width e.node.cap.level e.node.cap.device r.id.core r.id.op r.id.part r.call.kind r.call.slot r.call.dest r.call.core r.call.mask r.call.object r.call.bits r.call.level r.call.offset r.call.count r.call.index r.call.addr r.region r.width r.src.id.core r.src.id.op r.src.id.part (Zb r.src.path) r.src.cap.kind r.src.cap.base r.src.cap.bits r.src.cap.rights r.src.cap.width r.src.cap.level r.src.cap.device out (Za P) (Za [6,8,10,2]) (Za [7,9,11]) (p:Int) next c ((j+1:Nat):Int) 0 0 16 false (g'.map Ze) E0 r.id.core r.id.op r.id.part r.call.kind r.call.slot r.call.dest r.call.core r.call.mask r.call.object r.call.bits r.call.level r.call.offset r.call.count r.call.index r.call.addr r.region r.width r.src.id.core r.src.id.op r.src.id.part (Zb r.src.path) r.src.cap.kind r.src.cap.base r.src.cap.bits r.src.cap.rights r.src.cap.width r.src.cap.level r.src.cap.device ph' w' (Za P) dm) e0) ?_
        exact step hj' (next,(cms.length:Int),g'.map Ze,w',ph') ⟨fun h=>by omega,fun _=>rfl⟩
      · have hx':=hx.2 (fun h=>by have:=congrArg List.length h;rw [List.length_drop] at this;simp at this;omega)
        subst hx'
        exact step hj' (E0,0,g.map Ze,Za (P.drop (j+1)),ph) ⟨fun _=>rfl,fun h=>by omega⟩
  · simp only [CQ,Jp] at h
    obtain rfl:=hJ.2 (by omega)
    have fin:∀ want:LL,want=g'.map Ze→Ret Q (Zt (Za [0,1,0]) (p:Int) [.int .i64] fun (r90:Int)=>
       if (cop .neq (cms.length:Int) r90)=true then some false else
       (g21 0 0 16 false (g'.map Ze) E0 r.id.core r.id.op r.id.part r.call.kind r.call.slot r.call.dest r.call.core r.call.mask r.call.object r.call.bits r.call.level r.call.offset r.call.count r.call.index r.call.addr r.region r.width r.src.id.core r.src.id.op r.src.id.part (Zb r.src.path) r.src.cap.kind r.src.cap.base r.src.cap.bits r.src.cap.rights r.src.cap.width r.src.cap.level r.src.cap.device ph' w' (Za P) dm).bind fun (r91:Qt12)=>(g20 r91.1 want).bind fun (r130:Bool)=>if (!r130)=true then some false else
       rec0 [.l (f.map Ze),.i e.core,.i e.slot,.i e.node.id.core,.i e.node.id.op,.i e.node.id.part,.l (Zb e.node.path),.i e.node.cap.kind,.i e.node.cap.base,.i e.node.cap.bits,.i e.node.cap.rights,.i e.node.cap.width,.i e.node.cap.level,.b e.node.cap.device,.i r.id.core,.i r.id.op,.i r.id.part,.i r.call.kind,.i r.call.slot,.i r.call.dest,.i r.call.core,.i r.call.mask,.i r.call.object,.i r.call.bits,.i r.call.level,.i r.call.offset,.i r.call.count,.i r.call.index,.i r.call.addr,.i r.region,.i r.width,.i r.src.id.core,.i r.src.id.op,.i r.src.id.part,.l (Zb r.src.path),.i r.src.cap.kind,.i r.src.cap.base,.i r.src.cap.bits,.i r.src.cap.rights,.i r.src.cap.width,.i r.src.cap.level,.b r.src.cap.device,.l next,.l (Za P),.l (Za [6,8,10,2]),.l (Za [7,9,11]),.i (iop .add .i64 (p:Int) 1),.i (r91.2.1),.i (r91.2.2.1),.i (r91.2.2.2.1),.b (r91.2.2.2.2.1),.l (r91.2.2.2.2.2.1),.l (r91.2.2.2.2.2.2.1),.i (r91.2.2.2.2.2.2.2.1),.i (r91.2.2.2.2.2.2.2.2.1),.i (r91.2.2.2.2.2.2.2.2.2.1),.i (r91.2.2.2.2.2.2.2.2.2.2.1),.i (r91.2.2.2.2.2.2.2.2.2.2.2.1),.i (r91.2.2.2.2.2.2.2.2.2.2.2.2.1),.i (r91.2.2.2.2.2.2.2.2.2.2.2.2.2.1),.i (r91.2.2.2.2.2.2.2.2.2.2.2.2.2.2.1),.i (r91.2.2.2.2.2.2.2.2.2.2.2.2.2.2.2.1),.i (r91.2.2.2.2.2.2.2.2.2.2.2.2.2.2.2.2.1),.i (r91.2.2.2.2.2.2.2.2.2.2.2.2.2.2.2.2.2.1),.i (r91.2.2.2.2.2.2.2.2.2.2.2.2.2.2.2.2.2.2.1),.i (r91.2.2.2.2.2.2.2.2.2.2.2.2.2.2.2.2.2.2.2.1),.i (r91.2.2.2.2.2.2.2.2.2.2.2.2.2.2.2.2.2.2.2.2.1),.i (r91.2.2.2.2.2.2.2.2.2.2.2.2.2.2.2.2.2.2.2.2.2.1),.i (r91.2.2.2.2.2.2.2.2.2.2.2.2.2.2.2.2.2.2.2.2.2.2.1),.i (r91.2.2.2.2.2.2.2.2.2.2.2.2.2.2.2.2.2.2.2.2.2.2.2.1),.i (r91.2.2.2.2.2.2.2.2.2.2.2.2.2.2.2.2.2.2.2.2.2.2.2.2.1),.i (r91.2.2.2.2.2.2.2.2.2.2.2.2.2.2.2.2.2.2.2.2.2.2.2.2.2.1),.i (r91.2.2.2.2.2.2.2.2.2.2.2.2.2.2.2.2.2.2.2.2.2.2.2.2.2.2.1),.l (r91.2.2.2.2.2.2.2.2.2.2.2.2.2.2.2.2.2.2.2.2.2.2.2.2.2.2.2.1),.i (r91.2.2.2.2.2.2.2.2.2.2.2.2.2.2.2.2.2.2.2.2.2.2.2.2.2.2.2.2.1),.i (r91.2.2.2.2.2.2.2.2.2.2.2.2.2.2.2.2.2.2.2.2.2.2.2.2.2.2.2.2.2.1),.i (r91.2.2.2.2.2.2.2.2.2.2.2.2.2.2.2.2.2.2.2.2.2.2.2.2.2.2.2.2.2.2.1),.i (r91.2.2.2.2.2.2.2.2.2.2.2.2.2.2.2.2.2.2.2.2.2.2.2.2.2.2.2.2.2.2.2.1),.i (r91.2.2.2.2.2.2.2.2.2.2.2.2.2.2.2.2.2.2.2.2.2.2.2.2.2.2.2.2.2.2.2.2.1),.i (r91.2.2.2.2.2.2.2.2.2.2.2.2.2.2.2.2.2.2.2.2.2.2.2.2.2.2.2.2.2.2.2.2.2.1),.b (r91.2.2.2.2.2.2.2.2.2.2.2.2.2.2.2.2.2.2.2.2.2.2.2.2.2.2.2.2.2.2.2.2.2.2.1),.i (r91.2.2.2.2.2.2.2.2.2.2.2.2.2.2.2.2.2.2.2.2.2.2.2.2.2.2.2.2.2.2.2.2.2.2.2.1),.l (r91.2.2.2.2.2.2.2.2.2.2.2.2.2.2.2.2.2.2.2.2.2.2.2.2.2.2.2.2.2.2.2.2.2.2.2.2.1),.l (r91.2.2.2.2.2.2.2.2.2.2.2.2.2.2.2.2.2.2.2.2.2.2.2.2.2.2.2.2.2.2.2.2.2.2.2.2.2.1),.l (r91.2.2.2.2.2.2.2.2.2.2.2.2.2.2.2.2.2.2.2.2.2.2.2.2.2.2.2.2.2.2.2.2.2.2.2.2.2.2)]):=by
      intro want hw
      subst hw
      have kp:p < [0,1,0].length:=by simp;omega
      have hc0:([0,1,0] : List Int)[p]=if p=1 then 1 else 0:=by
        rcases (by omega:p=0∨p=1∨p=2) with rfl | rfl | rfl<;>rfl
      refine Zh (JA kp _) (Zc (fun h=>?_) fun _=>Zd (s21 g' hF2 (by have:=hF2.len;omega) E0 r ph' w' (Za P) dm) (Zd (s20 g' hF2 (by have:=hF2.len;omega)) (Zc (fun h=>by cases h) fun _=>?_)))
      · exfalso;simp only [CQ] at h;omega
      · rw [YD (n:=10) (by omega) (by omega)]
        exact hrec
    refine Zd (s11 f hF) (Zc (fun h=>?_) fun h=>?_)
    · simp only [CQ] at h
      have hp0:p≠0:=by omega
      refine Zd (s19 f hF (by omega) e.node.id) (fin _ ?_)
      rw [hg,if_neg hp0]
    · simp only [CQ] at h
      have hp0:p=0:=by omega
      refine fin _ ?_
      rw [hg,if_pos hp0]
end Go.Proofs.YtlgmnddelljbmaaGreat
end

section
namespace Go.Proofs.YtlgmnddelljbmaaGreat
open Go Go.AM
set_option linter.unusedSimpArgs false
set_option linter.unusedVariables false
set_option maxRecDepth 100000
set_option synthInstance.maxSize 2000
theorem Zvj (f:List Zq) (hF:Zab f) (ha:f.Pairwise fun a b=>lte a b=true) (hl:f.length < 100) (e:Zq) (r:Req) (hi:V2 r.id=true) (hpt:r.id.part=0) (P:List Int) (hP:P.length < 900) (h1:P≠[]) (hA:P.Pairwise (· < ·)) (hc:∀ z∈P,0≤z∧z < 32) (out:LL) (hO:Zfh 6 r.id P out) :
  ZpA Jn (f.map Ze) e.core e.slot e.node.id.core e.node.id.op e.node.id.part (Zb e.node.path) e.node.cap.kind e.node.cap.base e.node.cap.bits e.node.cap.rights e.node.cap.width e.node.cap.level e.node.cap.device r.id.core r.id.op r.id.part r.call.kind r.call.slot r.call.dest r.call.core r.call.mask r.call.object r.call.bits r.call.level r.call.offset r.call.count r.call.index r.call.addr r.region r.width r.src.id.core r.src.id.op r.src.id.part (Zb r.src.path) r.src.cap.kind r.src.cap.base r.src.cap.bits r.src.cap.rights r.src.cap.width r.src.cap.level r.src.cap.device out (Za P) (Za [6,8,10,2]) (Za [7,9,11]) 0 0 0 16 false (f.map Ze) E0 r.id.core r.id.op r.id.part r.call.kind r.call.slot r.call.dest r.call.core r.call.mask r.call.object r.call.bits r.call.level r.call.offset r.call.count r.call.index r.call.addr r.region r.width r.src.id.core r.src.id.op r.src.id.part (Zb r.src.path) r.src.cap.kind r.src.cap.base r.src.cap.bits r.src.cap.rights r.src.cap.width r.src.cap.level r.src.cap.device 2 (Za P) (Za P) (Zb (Z8 (bl f e.node.id)))=some true:=by
 have e8:g8=some true:=by kernel_rfl
 have hbl:(bl f e.node.id).length≤f.length:=List.length_filter_le _ _
 have hd:∀ d∈Z8 (bl f e.node.id),∃ x∈f,x.node.id=d:=fun d h=>by
  obtain ⟨x,hx,rfl⟩:=List.mem_map.1 h
  exact ⟨x,(List.mem_filter.1 hx).1,rfl⟩
 have hn:=ZlO ha e.node.id
 have hdl:(Z8 (bl f e.node.id)).length < 900:=by unfold Z8;rw [List.length_map];omega
 have key:Ret (fun x=>x=true) (ZpA Jn (f.map Ze) e.core e.slot e.node.id.core e.node.id.op e.node.id.part (Zb e.node.path) e.node.cap.kind e.node.cap.base e.node.cap.bits e.node.cap.rights e.node.cap.width e.node.cap.level e.node.cap.device r.id.core r.id.op r.id.part r.call.kind r.call.slot r.call.dest r.call.core r.call.mask r.call.object r.call.bits r.call.level r.call.offset r.call.count r.call.index r.call.addr r.region r.width r.src.id.core r.src.id.op r.src.id.part (Zb r.src.path) r.src.cap.kind r.src.cap.base r.src.cap.bits r.src.cap.rights r.src.cap.width r.src.cap.level r.src.cap.device out (Za P) (Za [6,8,10,2]) (Za [7,9,11]) 0 0 0 16 false (f.map Ze) E0 r.id.core r.id.op r.id.part r.call.kind r.call.slot r.call.dest r.call.core r.call.mask r.call.object r.call.bits r.call.level r.call.offset r.call.count r.call.index r.call.addr r.region r.width r.src.id.core r.src.id.op r.src.id.part (Zb r.src.path) r.src.cap.kind r.src.cap.base r.src.cap.bits r.src.cap.rights r.src.cap.width r.src.cap.level r.src.cap.device 2 (Za P) (Za P) (Zb (Z8 (bl f e.node.id)))):=by
  refine ZR (F:=fun k (s:LL×LL×Int×LL) i=>ZpA k (f.map Ze) e.core e.slot e.node.id.core e.node.id.op e.node.id.part (Zb e.node.path) e.node.cap.kind e.node.cap.base e.node.cap.bits e.node.cap.rights e.node.cap.width e.node.cap.level e.node.cap.device r.id.core r.id.op r.id.part r.call.kind r.call.slot r.call.dest r.call.core r.call.mask r.call.object r.call.bits r.call.level r.call.offset r.call.count r.call.index r.call.addr r.region r.width r.src.id.core r.src.id.op r.src.id.part (Zb r.src.path) r.src.cap.kind r.src.cap.base r.src.cap.bits r.src.cap.rights r.src.cap.width r.src.cap.level r.src.cap.device s.1 (Za P) (Za [6,8,10,2]) (Za [7,9,11]) i 0 0 16 false s.2.1 E0 r.id.core r.id.op r.id.part r.call.kind r.call.slot r.call.dest r.call.core r.call.mask r.call.object r.call.bits r.call.level r.call.offset r.call.count r.call.index r.call.addr r.region r.width r.src.id.core r.src.id.op r.src.id.part (Zb r.src.path) r.src.cap.kind r.src.cap.base r.src.cap.bits r.src.cap.rights r.src.cap.width r.src.cap.level r.src.cap.device s.2.2.1 s.2.2.2 (Za P) (Zb (Z8 (bl f e.node.id)))) 3 (fun p s=>(p=0→Zfh 6 r.id P s.1∧s.2=((f.map Ze),2,(Za P)))∧(p=1→Zfh 8 r.id P s.1∧s.2=((f.map Ze),3,(Za P)))∧(p=2→Zfh 10 r.id P s.1∧s.2=((left f (Z8 (bl f e.node.id))).map Ze,4,(Za P)))∧(p=3→s.1 = [mM 2 r.id.core 0 r.id 0 true E0])) (by omega) (fun k p s hp hJ next=>?_) (out,(f.map Ze),2,(Za P)) ⟨fun _=>⟨hO,rfl⟩,fun h=>by omega,fun h=>by omega,fun h=>by omega⟩
  obtain ⟨out,t⟩:=s
  refine Zh (Znj ..) (Zc (fun h=>?_) fun h=>?_)
  ·simp only [CQ] at h
   rcases (by omega:p=0∨p=1∨p=2) with rfl | rfl | rfl
   ·obtain ⟨hO,ht⟩:=hJ.1 rfl
    have ht':t=((f.map Ze),2,(Za P)):=ht
    subst ht'
    refine Zc (fun h=>?_) fun _=>?_
    ·exfalso;have:out.length=P.length:=hO.1;simp only [CQ,Jp] at h;omega
    ·refine ZsB _ f hF hl e r P hP h1 hA out 0 (by omega) 6 7 2 3 rfl rfl hO f f hF (Zb (Z8 (bl f e.node.id))) (P.map (fun z=>mM 8 z 0 r.id 0 false E0)) (Za P) E0 rfl rfl (fun z W hz hW hWl=>Zqc ((f.map Ze)) (hc z hz) W P hP hW hWl r hi hpt (Zb (Z8 (bl f e.node.id)))) ?_
     exact next (by omega) (P.map (fun z=>mM 8 z 0 r.id 0 false E0),(f.map Ze),3,(Za P)) ⟨fun h=>by omega,fun _=>⟨Zpt ..,rfl⟩,fun h=>by omega,fun h=>by omega⟩
   ·obtain ⟨hO,ht⟩:=hJ.2.1 rfl
    have ht':t=((f.map Ze),3,(Za P)):=ht
    subst ht'
    refine Zc (fun h=>?_) fun _=>?_
    ·exfalso;have:out.length=P.length:=hO.1;simp only [CQ,Jp] at h;omega
    ·refine ZsB _ f hF hl e r P hP h1 hA out 1 (by omega) 8 9 3 4 rfl rfl hO f (left f (Z8 (bl f e.node.id))) (Zdg hF _) (Zb (Z8 (bl f e.node.id))) (P.map (fun z=>mM 10 z 0 r.id 0 false E0)) (Za P) [[I r.id.core,I r.id.op,I r.id.part,B true]] (by rw [Zgx ha];rfl) rfl (fun z W hz hW hWl=>ZpU f hF ha hl (hc z hz) W P hP hW hWl r hi hpt _ hd hn hdl) ?_
     exact next (by omega) (P.map (fun z=>mM 10 z 0 r.id 0 false E0),(left f (Z8 (bl f e.node.id))).map Ze,4,(Za P)) ⟨fun h=>by omega,fun h=>by omega,fun _=>⟨Zpt ..,rfl⟩,fun h=>by omega⟩
   ·obtain ⟨hO,ht⟩:=hJ.2.2.1 rfl
    have ht':t=((left f (Z8 (bl f e.node.id))).map Ze,4,(Za P)):=ht
    subst ht'
    refine Zc (fun h=>?_) fun _=>?_
    ·exfalso;have:out.length=P.length:=hO.1;simp only [CQ,Jp] at h;omega
    ·refine ZsB _ f hF hl e r P hP h1 hA out 2 (by omega) 10 11 4 5 rfl rfl hO (left f (Z8 (bl f e.node.id))) (left f (Z8 (bl f e.node.id))) (Zdg hF _) (Zb (Z8 (bl f e.node.id))) [mM 2 r.id.core 0 r.id 0 true E0] E0 E0 (by rw [Zgx ha];rfl) rfl (fun z W hz hW hWl=>Zq1 ((left f (Z8 (bl f e.node.id))).map Ze) (hc z hz) W P hP hW hWl r hi hpt (Zb (Z8 (bl f e.node.id)))) ?_
     exact next (by omega) ([mM 2 r.id.core 0 r.id 0 true E0],(left f (Z8 (bl f e.node.id))).map Ze,5,E0) ⟨fun h=>by omega,fun h=>by omega,fun h=>by omega,fun _=>rfl⟩
  ·simp only [CQ] at h
   have ho:=hJ.2.2.2 (by omega)
   have ho':out = [mM 2 r.id.core 0 r.id 0 true E0]:=ho
   subst ho'
   refine Zc (fun _=>Zh (ZcJ ..) (Zc (fun _=>Zh (ZcJ ..) (Zc (fun _=>Zh (ZcJ ..) (Zc (fun _=>Zd e8 (Zf rfl)) fun h=>(h (by kernel_rfl)).elim)) fun h=>(h (by kernel_rfl)).elim)) fun h=>(h (by kernel_rfl)).elim)) fun h=>(h (by kernel_rfl)).elim
 obtain ⟨x,h,rfl⟩:=key
 exact h
theorem s3 (l:List ZnS) (hn:l.length < 2^63) (which:Int):g3 (l.map WK) which=some true:=by
 have e8:g8=some true:=by kernel_rfl
 have e10:g10=some (0,16,false):=by kernel_rfl
 have key:Ret (fun x=>x=true) (g3 (l.map WK) which):=by
  rw [Zsm]
  refine ZJ (s7 l hn) fun r hr=>?_
  obtain ⟨f,hf,rfl⟩:=hr
  refine Zc (fun _=>Zd e8 (Zf rfl)) fun h0=>?_
  simp only [CQ,List.length_map] at h0
  have hl:=hf.len
  have hF:=hf.few (by omega)
  refine Zd e10 (Zd (s11 f hF) (Zd (s9 f 30 hf (by omega)) ?_))
  rw [List.length_map]
  refine ZJ (place which (f.length:Int) (by omega) (by omega)) fun z hz=>?_
  have hk:z.toNat < f.length:=by omega
  refine K2 hz.1 hk ?_
  have hE:=hf.all _ (List.getElem_mem hk)
  have hno:=YU hE.ok
  refine Zd (s13 f[z.toNat].node (by omega)) ?_
  generalize hkk:z.toNat=k at hk hE hno
  let r:Req:=⟨⟨f[k].core,100,0⟩,⟨6,f[k].slot,0,0,0,0,0,0,0,0,0,0⟩,0,32,f[k].node⟩
  have hc0:=hE.c0
  have hc1:=hE.c1
  have hi:V2 r.id=true:=by simp only [V2,decide_eq_true_eq,r];omega
  have hrc:0≤r.id.core∧r.id.core < 32:=by simp only [r];omega
  have hrq:Zuf r:=⟨hi,rfl,show (2:Int)≤6 by decide,show (6:Int)≤6 by decide,rfl,rfl,hE.ok⟩
  have hcf:∀ e∈f,0≤e.core∧e.core < 32:=fun e he=>by have:=(hf.all e he).c0;have:=(hf.all e he).c1;omega
  by_cases hb:bl f f[k].node.id = []
  ·have e95:Ret (fun x=>x=(([mM 2 r.id.core 0 r.id 0 false E0],oT (f.map Ze) E0 r 5 E0 E0 E0):Qt12)) (g95 0 0 16 false (f.map Ze) E0 r.id.core r.id.op r.id.part r.call.kind r.call.slot r.call.dest r.call.core r.call.mask r.call.object r.call.bits r.call.level r.call.offset r.call.count r.call.index r.call.addr r.region r.width r.src.id.core r.src.id.op r.src.id.part (Zb r.src.path) r.src.cap.kind r.src.cap.base r.src.cap.bits r.src.cap.rights r.src.cap.width r.src.cap.level r.src.cap.device 0 E0 E0 E0):=ZuF f (by omega) hf.asc k hk E0 r 0 E0 E0 E0 rfl rfl rfl rfl ⟨_,Zsy f hF (by omega) f[k].node E0 r 0 E0 E0 E0 hb,rfl⟩
   obtain ⟨x,e95,rfl⟩:=e95
   have e14:=s14 (f.map Ze) r hrq e95
   have e15:=s15 f hF (by omega) f[k].node.id
   rw [hb] at e15
   refine Zd e14 (Zd e15 (Zc (fun _=>Zc (fun _=>Zh (ZcJ ..) (Zc (fun _=>Zh (ZcJ ..) (Zc (fun _=>Zh (ZcJ ..) (Zc (fun _=>Zd e8 (Zf rfl)) fun h=>(h (by kernel_rfl)).elim)) fun h=>(h (by kernel_rfl)).elim)) fun h=>(h (by kernel_rfl)).elim)) fun h=>(h (by kernel_rfl)).elim) fun h=>(h (by kernel_rfl)).elim))
  ·have e95:Ret _ (g95 0 0 16 false (f.map Ze) E0 r.id.core r.id.op r.id.part r.call.kind r.call.slot r.call.dest r.call.core r.call.mask r.call.object r.call.bits r.call.level r.call.offset r.call.count r.call.index r.call.addr r.region r.width r.src.id.core r.src.id.op r.src.id.part (Zb r.src.path) r.src.cap.kind r.src.cap.base r.src.cap.bits r.src.cap.rights r.src.cap.width r.src.cap.level r.src.cap.device 0 E0 E0 E0):=ZuF f (by omega) hf.asc k hk E0 r 0 E0 E0 E0 rfl rfl rfl rfl (Zvx f hF (by omega) hcf f[k].node E0 r hrc 0 E0 E0 E0 hb)
   obtain ⟨x,e95,h,rfl⟩:=e95
   have e14:=s14 (f.map Ze) r hrq e95
   have e15:=s15 f hF (by omega) f[k].node.id
   have hbl:(bl f f[k].node.id).length≤f.length:=List.length_filter_le _ _
   have hPl:=Za6 (bl f f[k].node.id) [r.id.core]
   simp only [List.length_singleton] at hPl
   have hPm:=Zfb (bl f f[k].node.id) [r.id.core]
   have hPa:=Zea (bl f f[k].node.id) [r.id.core] (List.pairwise_singleton _ _)
   refine Zd e14 (Zd e15 (Zc (fun h=>?_) fun _=>?_))
   ·exfalso
    simp only [CQ,Z5,Z8,List.length_map] at h
    exact hb (List.eq_nil_of_length_eq_zero (by omega))
   ·refine ZR (F:=fun n (s:LL) j=>ZqI n (f.map Ze) f[k].core f[k].slot f[k].node.id.core f[k].node.id.op f[k].node.id.part (Zb f[k].node.path) f[k].node.cap.kind f[k].node.cap.base f[k].node.cap.bits f[k].node.cap.rights f[k].node.cap.width f[k].node.cap.level f[k].node.cap.device r.id.core r.id.op r.id.part r.call.kind r.call.slot r.call.dest r.call.core r.call.mask r.call.object r.call.bits r.call.level r.call.offset r.call.count r.call.index r.call.addr r.region r.width r.src.id.core r.src.id.op r.src.id.part (Zb r.src.path) r.src.cap.kind r.src.cap.base r.src.cap.bits r.src.cap.rights r.src.cap.width r.src.cap.level r.src.cap.device ((Yl (bl f f[k].node.id) r.id.core).map (fun z=>mI 6 z r.id (h z))) (Zb (Z8 (bl f f[k].node.id))) s j 0 0 16 false (f.map Ze) E0 r.id.core r.id.op r.id.part r.call.kind r.call.slot r.call.dest r.call.core r.call.mask r.call.object r.call.bits r.call.level r.call.offset r.call.count r.call.index r.call.addr r.region r.width r.src.id.core r.src.id.op r.src.id.part (Zb r.src.path) r.src.cap.kind r.src.cap.base r.src.cap.bits r.src.cap.rights r.src.cap.width r.src.cap.level r.src.cap.device 2 (Za (Yl (bl f f[k].node.id) r.id.core)) (Za (Yl (bl f f[k].node.id) r.id.core)) (Zb (Z8 (bl f f[k].node.id)))) f.length (fun j s=>s=Za ((bl (f.take j) f[k].node.id).foldl (fun p e=>Zd5 p e.core) [r.id.core])) (by omega) (fun n j s hj hJ next=>?_) _ rfl
    subst hJ
    refine Zh (Zot ..) (Zc (fun h=>?_) fun h=>?_)
    ·simp only [CQ,List.length_map] at h
     have hj':j < f.length:=by omega
     have hbt:(bl (f.take j) f[k].node.id).length≤j:=Nat.le_trans (List.length_filter_le _ _) (by rw [List.length_take];omega)
     have hPl':=Za6 (bl (f.take j) f[k].node.id) [r.id.core]
     simp only [List.length_singleton] at hPl'
     have hs:=Wg (fun e:Zq=>e.node.path.contains f[k].node.id) f hj'
     have hm:=ZpY hf.asc f[k].node.id f[j] (List.getElem_mem hj')
     refine Zh (ZU hj' _) (Zd (Zs4 (Z8 (bl f f[k].node.id)) (by unfold Z8;rw [List.length_map];omega) f[j].node.id) (Zc (fun h2=>Zh (ZU hj' _) (Zd (s17 _ (by omega) f[j].core) ?_)) fun h2=>?_))
     ·rw [YD hj (by omega)]
      refine next hj' _ ?_
      rw [hm] at h2
      show _=Za (List.foldl _ _ ((f.take (j+1)).filter _))
      rw [hs,if_pos h2,List.foldl_append]
      rfl
     ·rw [YD hj (by omega)]
      refine next hj' _ ?_
      rw [hm] at h2
      show _=Za (List.foldl _ _ ((f.take (j+1)).filter _))
      rw [hs,if_neg h2,List.append_nil]
      rfl
    ·simp only [CQ,List.length_map] at h
     rw [List.take_of_length_le (by omega)]
     have hPn:Yl (bl f f[k].node.id) r.id.core≠[]:=fun h=>by
      have:=(hPm r.id.core).2 (.inl (List.mem_singleton.2 rfl))
      unfold Yl at h
      rw [h] at this
      cases this
     have hPc:∀ z∈Yl (bl f f[k].node.id) r.id.core,0≤z∧z < 32:=fun z hz=>by
      rcases (hPm z).1 hz with hz | ⟨x,hx,rfl⟩
      ·rw [List.mem_singleton.1 hz];exact hrc
      ·exact hcf x (List.mem_filter.1 hx).1
     have hPlt:List.length (Yl (bl f f[k].node.id) r.id.core) < 900:=by
      show List.length (List.foldl (fun p (e:Zq)=>Zd5 p e.core) [r.id.core] (bl f f[k].node.id)) < 900
      omega
     exact ⟨true,Zvj f hF hf.asc (by omega) f[k] r hi rfl (Yl (bl f f[k].node.id) r.id.core) hPlt hPn hPa hPc _ (Zti ..),rfl⟩
 obtain ⟨x,h,rfl⟩:=key
 exact h
end Go.Proofs.YtlgmnddelljbmaaGreat
end
